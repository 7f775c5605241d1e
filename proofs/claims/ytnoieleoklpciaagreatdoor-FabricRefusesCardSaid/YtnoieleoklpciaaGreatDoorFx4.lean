/- Functions of the program as plain functions over the interpreter's words, and the theorems that they are what the interpreter makes of the code. -/
import Derived.Test.YtnoieleoklpciaaGreatDoorCx
set_option linter.unusedVariables false
set_option linter.unusedSimpArgs false
namespace Go.Proofs.YtnoieleoklpciaaGreatDoor
open Go.Run
set_option maxRecDepth 100000
open Go
/-! rillmeter/bank.Feed -/
noncomputable def c71_0 : Code := (bodyOf Tryz.f71)
noncomputable def c71_1 : Code := (pS2 c71_0)
noncomputable def c71_2 : Code := (pS2 c71_1)
noncomputable def c71_3 : Code := (pS2 c71_2)
noncomputable def c71_4 : Code := (pS2 c71_3)
noncomputable def c71_5 : Code := (pS2 c71_4)
noncomputable def c71_6 : Code := (pS2 c71_5)
noncomputable def c71_7 : Code := (pS2 c71_6)
noncomputable def c71_8 : Code := (pS2 c71_7)
noncomputable def c71_9 : Code := (pS2 c71_8)
noncomputable def c71_10 : Code := (pS2 c71_9)
noncomputable def c71_11 : Code := (pS2 c71_10)
noncomputable def c71_12 : Code := (pS2 (pS1 c71_3))
noncomputable def c71_13 : Code := (pS2 (pC1 c71_12))
noncomputable def Z71 (m : Nat) := fun (e : Nat → AV) => retV (C m) (resE e Tryz.f71.results.toList)
noncomputable def K71_11 (m : Nat) (call : CallF) (t2 t4 t6 t10 t11 t12 : AV) : Kt :=
 bnd (fadO (C m) 103 t2 7) fun v0 =>
 bnd (ldO (C m) 101 v0) fun v1 =>
 bnd (fadO (C m) 276 t6 0) fun v2 =>
 bnd (ldO (C m) 9 v2) fun v3 =>
 bnd (fadO (C m) 276 t6 1) fun v4 =>
 bnd (ldO (C m) 9 v4) fun v5 =>
 bnd (calO (C m) call (fnV 115) [v1, v3, v5]) fun v6 =>
 bnd (fadO (C m) 103 t2 7) fun v7 =>
 bnd (stO (C m) 101 v7 v6) fun _ =>
 bnd (bltO (C m) .max [42, 42, 42] [t10, t11, t12]) fun v8 =>
 bnd (binO (C m) .neq 42 v8 (I 0)) fun v9 =>
 bnd (gdO (wantV v9 false) (fadO (C m) 103 t2 1)) fun v10 =>
 bnd (gdO (wantV v9 false) (ldO (C m) 3 v10)) fun v11 =>
 bnd (gdO (wantV v9 false) (calO (C m) call (fnV 89) [v11])) fun v12 =>
 bnd (gdO (wantV v9 false) (unO .not v12)) fun v13 =>
 bnd (pickO v9 (B true) v13) fun v14 =>
 bnd (gdO (wantV v14 false) (fadO (C m) 103 t2 2)) fun v15 =>
 bnd (gdO (wantV v14 false) (ldO (C m) 3 v15)) fun v16 =>
 bnd (gdO (wantV v14 false) (calO (C m) call (fnV 89) [v16])) fun v17 =>
 bnd (gdO (wantV v14 false) (unO .not v17)) fun v18 =>
 bnd (pickO v14 (B true) v18) fun v19 =>
 ifB v19
 ((bnd (bldO (C m) 103 []) fun v20 =>
 bnd (stO (C m) 103 t4 v20) fun _ =>
 retV (C m) [(some 103, t4), (none, (I 5))]))
 ((bnd (ldO (C m) 103 t2) fun v21 =>
 bnd (stO (C m) 103 t4 v21) fun _ =>
 retV (C m) [(some 103, t4), (none, (I 0))]))
theorem K71_11_eq (m : Nat) (call : CallF) : compF c71_11 (C m) call (Z71 m) nx (Z71 m) = (fun e => K71_11 m call (e 2) (e 4) (e 6) (e 10) (e 11) (e 12)) := by
  refine Eq.trans (b := (compF (pS1 c71_11) (C m) call (compF (pS1 (pS1 (pS2 c71_11))) (C m) call (fun e => ifB (e 110) ((compF (pS1 (pC1 (pS2 (pS1 (pS2 c71_11))))) (C m) call (Z71 m) nx (Z71 m)) e) ((compF (pS1 (pS2 (pS2 c71_11))) (C m) call (Z71 m) nx (Z71 m)) e)) nx (Z71 m)) nx (Z71 m))) (by kernel_rfl) ?_
  kernel_rfl
noncomputable def K71_10 (m : Nat) (call : CallF) (t2 t4 t6 t8 t10 t11 : AV) : Kt :=
 bnd (fadO (C m) 103 t2 6) fun v0 =>
 bnd (ldO (C m) 98 v0) fun v1 =>
 bnd (calO (C m) call (fnV 114) [v1, t8]) fun v2 =>
 bnd (extO v2 0) fun v3 =>
 bnd (extO v2 1) fun v4 =>
 bnd (fadO (C m) 103 t2 6) fun v5 =>
 bnd (stO (C m) 98 v5 v3) fun _ =>
 K71_11 m call t2 t4 t6 t10 t11 v4
theorem K71_10_eq (m : Nat) (call : CallF) : compF c71_10 (C m) call (Z71 m) nx (Z71 m) = (fun e => K71_10 m call (e 2) (e 4) (e 6) (e 8) (e 10) (e 11)) := by
  refine Eq.trans (b := (compF (pS1 c71_10) (C m) call (compF c71_11 (C m) call (Z71 m) nx (Z71 m)) nx (Z71 m))) (by kernel_rfl) ?_
  rw [K71_11_eq m call ]
  first | done | (show _ = _; kernel_rfl)
noncomputable def K71_9 (m : Nat) (call : CallF) (t1 t2 t4 t6 t8 t10 : AV) : Kt :=
 bnd (fadO (C m) 103 t2 5) fun v0 =>
 bnd (ldO (C m) 95 v0) fun v1 =>
 bnd (bltO (C m) .len [9] [t1]) fun v2 =>
 bnd (calO (C m) call (fnV 113) [v1, t8, v2]) fun v3 =>
 bnd (extO v3 0) fun v4 =>
 bnd (extO v3 1) fun v5 =>
 bnd (fadO (C m) 103 t2 5) fun v6 =>
 bnd (stO (C m) 95 v6 v4) fun _ =>
 K71_10 m call t2 t4 t6 t8 t10 v5
theorem K71_9_eq (m : Nat) (call : CallF) : compF c71_9 (C m) call (Z71 m) nx (Z71 m) = (fun e => K71_9 m call (e 1) (e 2) (e 4) (e 6) (e 8) (e 10)) := by
  refine Eq.trans (b := (compF (pS1 c71_9) (C m) call (compF c71_10 (C m) call (Z71 m) nx (Z71 m)) nx (Z71 m))) (by kernel_rfl) ?_
  rw [K71_10_eq m call ]
  first | done | (show _ = _; kernel_rfl)
noncomputable def K71_8 (m : Nat) (call : CallF) (t1 t2 t4 t6 t8 : AV) : Kt :=
 bnd (fadO (C m) 103 t2 4) fun v0 =>
 bnd (ldO (C m) 91 v0) fun v1 =>
 bnd (calO (C m) call (fnV 112) [v1, t8]) fun v2 =>
 bnd (extO v2 0) fun v3 =>
 bnd (extO v2 1) fun v4 =>
 bnd (fadO (C m) 103 t2 4) fun v5 =>
 bnd (stO (C m) 91 v5 v3) fun _ =>
 K71_9 m call t1 t2 t4 t6 t8 v4
theorem K71_8_eq (m : Nat) (call : CallF) : compF c71_8 (C m) call (Z71 m) nx (Z71 m) = (fun e => K71_8 m call (e 1) (e 2) (e 4) (e 6) (e 8)) := by
  refine Eq.trans (b := (compF (pS1 c71_8) (C m) call (compF c71_9 (C m) call (Z71 m) nx (Z71 m)) nx (Z71 m))) (by kernel_rfl) ?_
  rw [K71_9_eq m call ]
  first | done | (show _ = _; kernel_rfl)
noncomputable def K71_7 (m : Nat) (call : CallF) (t1 t2 t4 t6 t8 : AV) : Kt :=
 K71_8 m call t1 t2 t4 t6 t8
theorem K71_7_eq (m : Nat) (call : CallF) : compF c71_7 (C m) call (Z71 m) nx (Z71 m) = (fun e => K71_7 m call (e 1) (e 2) (e 4) (e 6) (e 8)) := by
  refine Eq.trans (b := (compF (pS1 c71_7) (C m) call (compF c71_8 (C m) call (Z71 m) nx (Z71 m)) nx (Z71 m))) (by kernel_rfl) ?_
  rw [K71_8_eq m call ]
  first | done | (show _ = _; kernel_rfl)
noncomputable def K71_6 (m : Nat) (call : CallF) (t1 t2 t4 t6 : AV) : Kt :=
 bnd (ldO (C m) 276 t6) fun v0 =>
 bnd (calO (C m) call (fnV 111) [v0]) fun v1 =>
 bnd (extO v1 0) fun v2 =>
 bnd (extO v1 1) fun v3 =>
 K71_7 m call t1 t2 t4 t6 v2
theorem K71_6_eq (m : Nat) (call : CallF) : compF c71_6 (C m) call (Z71 m) nx (Z71 m) = (fun e => K71_6 m call (e 1) (e 2) (e 4) (e 6)) := by
  refine Eq.trans (b := (compF (pS1 c71_6) (C m) call (compF c71_7 (C m) call (Z71 m) nx (Z71 m)) nx (Z71 m))) (by kernel_rfl) ?_
  rw [K71_7_eq m call ]
  first | done | (show _ = _; kernel_rfl)
noncomputable def K71_5 (m : Nat) (call : CallF) (t1 t2 t4 t6 : AV) : Kt :=
 bnd (fadO (C m) 103 t2 2) fun v0 =>
 bnd (ldO (C m) 3 v0) fun v1 =>
 bnd (bltO (C m) .len [9] [t1]) fun v2 =>
 bnd (binO (C m) .add 3 v1 v2) fun v3 =>
 bnd (fadO (C m) 103 t2 2) fun v4 =>
 bnd (stO (C m) 3 v4 v3) fun _ =>
 K71_6 m call t1 t2 t4 t6
theorem K71_5_eq (m : Nat) (call : CallF) : compF c71_5 (C m) call (Z71 m) nx (Z71 m) = (fun e => K71_5 m call (e 1) (e 2) (e 4) (e 6)) := by
  refine Eq.trans (b := (compF (pS1 c71_5) (C m) call (compF c71_6 (C m) call (Z71 m) nx (Z71 m)) nx (Z71 m))) (by kernel_rfl) ?_
  rw [K71_6_eq m call ]
  first | done | (show _ = _; kernel_rfl)
noncomputable def K71_4 (m : Nat) (call : CallF) (t1 t2 t4 t6 : AV) : Kt :=
 bnd (fadO (C m) 103 t2 1) fun v0 =>
 bnd (ldO (C m) 3 v0) fun v1 =>
 bnd (binO (C m) .add 3 v1 (I 1)) fun v2 =>
 bnd (fadO (C m) 103 t2 1) fun v3 =>
 bnd (stO (C m) 3 v3 v2) fun _ =>
 K71_5 m call t1 t2 t4 t6
theorem K71_4_eq (m : Nat) (call : CallF) : compF c71_4 (C m) call (Z71 m) nx (Z71 m) = (fun e => K71_4 m call (e 1) (e 2) (e 4) (e 6)) := by
  refine Eq.trans (b := (compF (pS1 c71_4) (C m) call (compF c71_5 (C m) call (Z71 m) nx (Z71 m)) nx (Z71 m))) (by kernel_rfl) ?_
  rw [K71_5_eq m call ]
  first | done | (show _ = _; kernel_rfl)
noncomputable def K71_13 (m : Nat) (call : CallF) (t2 t4 t7 : AV) : Kt :=
 bnd (fadO (C m) 103 t2 3) fun v0 =>
 bnd (ldO (C m) 56 v0) fun v1 =>
 bnd (iadO (C m) 56 v1 t7) fun v2 =>
 bnd (ldO (C m) 3 v2) fun v3 =>
 bnd (binO (C m) .add 3 v3 (I 1)) fun v4 =>
 bnd (iadO (C m) 56 v1 t7) fun v5 =>
 bnd (stO (C m) 3 v5 v4) fun _ =>
 bnd (fadO (C m) 103 t2 3) fun v6 =>
 bnd (ldO (C m) 56 v6) fun v7 =>
 bnd (iadO (C m) 56 v7 t7) fun v8 =>
 bnd (ldO (C m) 3 v8) fun v9 =>
 bnd (calO (C m) call (fnV 89) [v9]) fun v10 =>
 bnd (unO .not v10) fun v11 =>
 ifB v11
 ((bnd (bldO (C m) 103 []) fun v12 =>
 bnd (stO (C m) 103 t4 v12) fun _ =>
 retV (C m) [(some 103, t4), (none, (I 5))]))
 ((bnd (ldO (C m) 103 t2) fun v13 =>
 bnd (stO (C m) 103 t4 v13) fun _ =>
 retV (C m) [(some 103, t4), (none, t7)]))
theorem K71_13_eq (m : Nat) (call : CallF) : compF c71_13 (C m) call (fun e => K71_4 m call (e 1) (e 2) (e 4) (e 6)) nx (Z71 m) = (fun e => K71_13 m call (e 2) (e 4) (e 7)) := by
  refine Eq.trans (b := (compF (pS1 c71_13) (C m) call (compF (pS1 (pS1 (pS2 c71_13))) (C m) call (fun e => ifB (e 41) ((compF (pS1 (pC1 (pS2 (pS1 (pS2 c71_13))))) (C m) call (Z71 m) nx (Z71 m)) e) ((compF (pS1 (pS2 (pS2 c71_13))) (C m) call (Z71 m) nx (Z71 m)) e)) nx (Z71 m)) nx (Z71 m))) (by kernel_rfl) ?_
  kernel_rfl
noncomputable def K71_12 (m : Nat) (call : CallF) (t1 t2 t4 t6 t7 t23 : AV) : Kt :=
 ifB t23
 ((bnd (fadO (C m) 103 t2 3) fun v0 =>
 bnd (ldO (C m) 56 v0) fun v1 =>
 bnd (calO (C m) call (fnV 41) [v1]) fun v2 =>
 bnd (fadO (C m) 103 t2 3) fun v3 =>
 bnd (stO (C m) 56 v3 v2) fun _ =>
 K71_13 m call t2 t4 t7))
 ((K71_4 m call t1 t2 t4 t6))
theorem K71_12_eq (m : Nat) (call : CallF) : compF c71_12 (C m) call (fun e => K71_4 m call (e 1) (e 2) (e 4) (e 6)) nx (Z71 m) = (fun e => K71_12 m call (e 1) (e 2) (e 4) (e 6) (e 7) (e 23)) := by
  refine Eq.trans (b := (fun e => ifB (e 23) ((compF (pS1 (pC1 c71_12)) (C m) call (compF c71_13 (C m) call (fun e => K71_4 m call (e 1) (e 2) (e 4) (e 6)) nx (Z71 m)) nx (Z71 m)) e) ((fun e => K71_4 m call (e 1) (e 2) (e 4) (e 6)) e))) (by kernel_rfl) ?_
  rw [K71_13_eq m call ]
  first | done | (show _ = _; kernel_rfl)
noncomputable def K71_3 (m : Nat) (call : CallF) (t1 t2 t4 t6 t7 : AV) : Kt :=
 bnd (binO (C m) .neq 42 t7 (I 0)) fun v0 =>
 K71_12 m call t1 t2 t4 t6 t7 v0
theorem K71_3_eq (m : Nat) (call : CallF) : compF c71_3 (C m) call (Z71 m) nx (Z71 m) = (fun e => K71_3 m call (e 1) (e 2) (e 4) (e 6) (e 7)) := by
  refine Eq.trans (b := (compF (pS1 (pS1 c71_3)) (C m) call (compF c71_12 (C m) call (compF c71_4 (C m) call (Z71 m) nx (Z71 m)) nx (Z71 m)) nx (Z71 m))) (by kernel_rfl) ?_
  rw [K71_4_eq m call , K71_12_eq m call ]
  first | done | (show _ = _; kernel_rfl)
noncomputable def K71_2 (m : Nat) (call : CallF) (t1 t2 t4 : AV) : Kt :=
 bnd (calO (C m) call (fnV 110) [t1]) fun v0 =>
 bnd (extO v0 0) fun v1 =>
 bnd (extO v0 1) fun v2 =>
 bnd (newO (C m) 276) fun v3 =>
 bnd (stO (C m) 276 v3 v1) fun _ =>
 K71_3 m call t1 t2 t4 v3 v2
theorem K71_2_eq (m : Nat) (call : CallF) : compF c71_2 (C m) call (Z71 m) nx (Z71 m) = (fun e => K71_2 m call (e 1) (e 2) (e 4)) := by
  refine Eq.trans (b := (compF (pS1 c71_2) (C m) call (compF c71_3 (C m) call (Z71 m) nx (Z71 m)) nx (Z71 m))) (by kernel_rfl) ?_
  rw [K71_3_eq m call ]
  first | done | (show _ = _; kernel_rfl)
noncomputable def K71_1 (m : Nat) (call : CallF) (t1 t2 t4 : AV) : Kt :=
 bnd (ldO (C m) 103 t2) fun v0 =>
 bnd (calO (C m) call (fnV 51) [v0]) fun v1 =>
 bnd (unO .not v1) fun v2 =>
 ifB v2
 ((bnd (bldO (C m) 103 []) fun v3 =>
 bnd (stO (C m) 103 t4 v3) fun _ =>
 retV (C m) [(some 103, t4), (none, (I 1))]))
 ((K71_2 m call t1 t2 t4))
theorem K71_1_eq (m : Nat) (call : CallF) : compF c71_1 (C m) call (Z71 m) nx (Z71 m) = (fun e => K71_1 m call (e 1) (e 2) (e 4)) := by
  refine Eq.trans (b := (compF (pS1 (pS1 c71_1)) (C m) call (fun e => ifB (e 15) ((compF (pS1 (pC1 (pS2 (pS1 c71_1)))) (C m) call (Z71 m) nx (Z71 m)) e) ((compF c71_2 (C m) call (Z71 m) nx (Z71 m)) e)) nx (Z71 m))) (by kernel_rfl) ?_
  rw [K71_2_eq m call ]
  first | done | (show _ = _; kernel_rfl)
noncomputable def K71_0 (m : Nat) (call : CallF) (t0 t1 : AV) : Kt :=
 bnd (boxO 103 t0) fun v0 =>
 bnd (newO (C m) 103) fun v1 =>
 K71_1 m call t1 v0 v1
theorem K71_0_eq (m : Nat) (call : CallF) : compF c71_0 (C m) call (Z71 m) nx (Z71 m) = (fun e => K71_0 m call (e 0) (e 1)) := by
  refine Eq.trans (b := (compF (pS1 c71_0) (C m) call (compF c71_1 (C m) call (Z71 m) nx (Z71 m)) nx (Z71 m))) (by kernel_rfl) ?_
  rw [K71_1_eq m call ]
  first | done | (show _ = _; kernel_rfl)
theorem F71_eq (m : Nat) (call : CallF) (t0 t1 : AV) : enterK (C m) call Tryz.f71 [t0, t1] = K71_0 m call t0 t1 := by
  refine Eq.trans (b := (compF c71_0 (C m) call (Z71 m) nx (Z71 m)) (argF [t0, t1])) (by kernel_rfl) ?_
  rw [K71_0_eq m call]
  first | done | rfl
/-! rillmeter/bank.fits -/
noncomputable def c89_0 : Code := (bodyOf Tryz.f89)
noncomputable def Z89 (m : Nat) := fun (e : Nat → AV) => retV (C m) (resE e Tryz.f89.results.toList)
noncomputable def K89_0 (m : Nat) (call : CallF) (t0 : AV) : Kt :=
 bnd (binO (C m) .geq 3 t0 (I 0)) fun v0 =>
 bnd (gdO (wantV v0 true) (fun _ => .val t0)) fun v1 =>
 bnd (gdO (wantV v0 true) (binO (C m) .leq 3 v1 (I 1099511627776))) fun v2 =>
 bnd (pickO v0 v2 (B false)) fun v3 =>
 retV (C m) [(none, v3)]
theorem K89_0_eq (m : Nat) (call : CallF) : compF c89_0 (C m) call (Z89 m) nx (Z89 m) = (fun e => K89_0 m call (e 0)) := by
  refine Eq.trans (b := (compF (pS1 c89_0) (C m) call (compF (pS1 (pS2 c89_0)) (C m) call (Z89 m) nx (Z89 m)) nx (Z89 m))) (by kernel_rfl) ?_
  kernel_rfl
theorem F89_eq (m : Nat) (call : CallF) (t0 : AV) : enterK (C m) call Tryz.f89 [t0] = K89_0 m call t0 := by
  refine Eq.trans (b := (compF c89_0 (C m) call (Z89 m) nx (Z89 m)) (argF [t0])) (by kernel_rfl) ?_
  rw [K89_0_eq m call]
  first | done | rfl
/-! slices.Clone[[]int,int] -/
noncomputable def c41_0 : Code := (bodyOf Tryz.f41)
noncomputable def Z41 (m : Nat) := fun (e : Nat → AV) => retV (C m) (resE e Tryz.f41.results.toList)
noncomputable def K41_0 (m : Nat) (call : CallF) (t0 : AV) : Kt :=
 bnd (binO (C m) .eql 56 t0 NS) fun v0 =>
 ifB v0
 ((retV (C m) [(none, NS)]))
 ((bnd (bslO (C m) 56 0 []) fun v1 =>
 bnd (bltO (C m) .append [56, 56] [v1, t0]) fun v2 =>
 retV (C m) [(none, v2)]))
theorem K41_0_eq (m : Nat) (call : CallF) : compF c41_0 (C m) call (Z41 m) nx (Z41 m) = (fun e => K41_0 m call (e 0)) := by
  refine Eq.trans (b := (compF (pS1 c41_0) (C m) call (compF (pS1 (pS1 (pS2 c41_0))) (C m) call (fun e => ifB (e 4) ((compF (pS1 (pC1 (pS2 (pS1 (pS2 c41_0))))) (C m) call (Z41 m) nx (Z41 m)) e) ((compF (pS1 (pS2 (pS2 c41_0))) (C m) call (Z41 m) nx (Z41 m)) e)) nx (Z41 m)) nx (Z41 m))) (by kernel_rfl) ?_
  kernel_rfl
theorem F41_eq (m : Nat) (call : CallF) (t0 : AV) : enterK (C m) call Tryz.f41 [t0] = K41_0 m call t0 := by
  refine Eq.trans (b := (compF c41_0 (C m) call (Z41 m) nx (Z41 m)) (argF [t0])) (by kernel_rfl) ?_
  rw [K41_0_eq m call]
  first | done | rfl
/-! (*rillmeter/meter.Meter).Feed -/
noncomputable def c34_0 : Code := (bodyOf Tryz.f34)
noncomputable def c34_1 : Code := (pS2 c34_0)
noncomputable def c34_2 : Code := (pS2 c34_1)
noncomputable def c34_3 : Code := (pS2 c34_2)
noncomputable def c34_4 : Code := (pS2 c34_3)
noncomputable def c34_5 : Code := (pS2 c34_4)
noncomputable def Z34 (m : Nat) := fun (e : Nat → AV) => retV (C m) (resE e Tryz.f34.results.toList)
noncomputable def K34_5 (m : Nat) (call : CallF) (t6 : AV) : Kt :=
 retV (C m) [(none, t6)]
theorem K34_5_eq (m : Nat) (call : CallF) : compF c34_5 (C m) call (Z34 m) nx (Z34 m) = (fun e => K34_5 m call (e 6)) := by
  refine Eq.trans (b := (compF (pS1 c34_5) (C m) call (Z34 m) nx (Z34 m))) (by kernel_rfl) ?_
  kernel_rfl
noncomputable def K34_4 (m : Nat) (call : CallF) (t0 t5 t6 : AV) : Kt :=
 bnd (binO (C m) .neq 42 t6 (I 5)) fun v0 =>
 ifB v0
 ((bnd (ldO (C m) 103 t5) fun v1 =>
 bnd (nilO t0) fun v2 =>
 bnd (fadO (C m) 121 v2 3) fun v3 =>
 bnd (stO (C m) 103 v3 v1) fun _ =>
 K34_5 m call t6))
 ((K34_5 m call t6))
theorem K34_4_eq (m : Nat) (call : CallF) : compF c34_4 (C m) call (Z34 m) nx (Z34 m) = (fun e => K34_4 m call (e 0) (e 5) (e 6)) := by
  refine Eq.trans (b := (compF (pS1 (pS1 c34_4)) (C m) call (fun e => ifB (e 23) ((compF (pC1 (pS2 (pS1 c34_4))) (C m) call (compF c34_5 (C m) call (Z34 m) nx (Z34 m)) nx (Z34 m)) e) ((compF c34_5 (C m) call (Z34 m) nx (Z34 m)) e)) nx (Z34 m))) (by kernel_rfl) ?_
  rw [K34_5_eq m call ]
  first | done | (show _ = _; kernel_rfl)
noncomputable def K34_3 (m : Nat) (call : CallF) (t0 t1 : AV) : Kt :=
 bnd (nilO t0) fun v0 =>
 bnd (fadO (C m) 121 v0 3) fun v1 =>
 bnd (ldO (C m) 103 v1) fun v2 =>
 bnd (calO (C m) call (fnV 71) [v2, t1]) fun v3 =>
 bnd (extO v3 0) fun v4 =>
 bnd (extO v3 1) fun v5 =>
 bnd (newO (C m) 103) fun v6 =>
 bnd (stO (C m) 103 v6 v4) fun _ =>
 K34_4 m call t0 v6 v5
theorem K34_3_eq (m : Nat) (call : CallF) : compF c34_3 (C m) call (Z34 m) nx (Z34 m) = (fun e => K34_3 m call (e 0) (e 1)) := by
  refine Eq.trans (b := (compF (pS1 c34_3) (C m) call (compF c34_4 (C m) call (Z34 m) nx (Z34 m)) nx (Z34 m))) (by kernel_rfl) ?_
  rw [K34_4_eq m call ]
  first | done | (show _ = _; kernel_rfl)
noncomputable def K34_2 (m : Nat) (call : CallF) (t0 t1 : AV) : Kt :=
 bnd (nilO t0) fun v0 =>
 bnd (fadO (C m) 121 v0 6) fun v1 =>
 bnd (calO (C m) call (fnV 70) [v1, (I 1)]) fun v2 =>
 K34_3 m call t0 t1
theorem K34_2_eq (m : Nat) (call : CallF) : compF c34_2 (C m) call (Z34 m) nx (Z34 m) = (fun e => K34_2 m call (e 0) (e 1)) := by
  refine Eq.trans (b := (compF (pS1 c34_2) (C m) call (compF c34_3 (C m) call (Z34 m) nx (Z34 m)) nx (Z34 m))) (by kernel_rfl) ?_
  rw [K34_3_eq m call ]
  first | done | (show _ = _; kernel_rfl)
noncomputable def K34_1 (m : Nat) (call : CallF) (t0 t1 : AV) : Kt :=
 bnd (binO (C m) .eql 54 t0 NP) fun v0 =>
 ifB v0
 ((retV (C m) [(none, (I 1))]))
 ((K34_2 m call t0 t1))
theorem K34_1_eq (m : Nat) (call : CallF) : compF c34_1 (C m) call (Z34 m) nx (Z34 m) = (fun e => K34_1 m call (e 0) (e 1)) := by
  refine Eq.trans (b := (compF (pS1 (pS1 c34_1)) (C m) call (fun e => ifB (e 8) ((compF (pS1 (pC1 (pS2 (pS1 c34_1)))) (C m) call (Z34 m) nx (Z34 m)) e) ((compF c34_2 (C m) call (Z34 m) nx (Z34 m)) e)) nx (Z34 m))) (by kernel_rfl) ?_
  rw [K34_2_eq m call ]
  first | done | (show _ = _; kernel_rfl)
noncomputable def K34_0 (m : Nat) (call : CallF) (t0 t1 : AV) : Kt :=
 K34_1 m call t0 t1
theorem K34_0_eq (m : Nat) (call : CallF) : compF c34_0 (C m) call (Z34 m) nx (Z34 m) = (fun e => K34_0 m call (e 0) (e 1)) := by
  refine Eq.trans (b := (compF (pS1 c34_0) (C m) call (compF c34_1 (C m) call (Z34 m) nx (Z34 m)) nx (Z34 m))) (by kernel_rfl) ?_
  rw [K34_1_eq m call ]
  first | done | (show _ = _; kernel_rfl)
theorem F34_eq (m : Nat) (call : CallF) (t0 t1 : AV) : enterK (C m) call Tryz.f34 [t0, t1] = K34_0 m call t0 t1 := by
  refine Eq.trans (b := (compF c34_0 (C m) call (Z34 m) nx (Z34 m)) (argF [t0, t1])) (by kernel_rfl) ?_
  rw [K34_0_eq m call]
  first | done | rfl
/-! (*rillmeter/meter.Meter).Tick -/
noncomputable def c35_0 : Code := (bodyOf Tryz.f35)
noncomputable def c35_1 : Code := (pS2 c35_0)
noncomputable def c35_2 : Code := (pS2 c35_1)
noncomputable def c35_3 : Code := (pS2 c35_2)
noncomputable def c35_4 : Code := (pS2 c35_3)
noncomputable def c35_5 : Code := (pS2 c35_4)
noncomputable def c35_6 : Code := (pS2 c35_5)
noncomputable def c35_7 : Code := (pS2 c35_6)
noncomputable def Z35 (m : Nat) := fun (e : Nat → AV) => retV (C m) (resE e Tryz.f35.results.toList)
noncomputable def K35_7 (m : Nat) (call : CallF) (t0 : AV) : Kt :=
 bnd (nilO t0) fun v0 =>
 bnd (fadO (C m) 121 v0 3) fun v1 =>
 bnd (fadO (C m) 103 v1 0) fun v2 =>
 bnd (ldO (C m) 29 v2) fun v3 =>
 bnd (calO (C m) call (fnV 31) [v3]) fun v4 =>
 bnd (extO v4 0) fun v5 =>
 bnd (extO v4 1) fun v6 =>
 bnd (nilO t0) fun v7 =>
 bnd (fadO (C m) 121 v7 3) fun v8 =>
 bnd (stO (C m) 103 v8 v5) fun _ =>
 retV (C m) [(none, (B true))]
theorem K35_7_eq (m : Nat) (call : CallF) : compF c35_7 (C m) call (Z35 m) nx (Z35 m) = (fun e => K35_7 m call (e 0)) := by
  refine Eq.trans (b := (compF (pS1 c35_7) (C m) call (compF (pS1 (pS2 c35_7)) (C m) call (Z35 m) nx (Z35 m)) nx (Z35 m))) (by kernel_rfl) ?_
  kernel_rfl
noncomputable def K35_6 (m : Nat) (call : CallF) (t0 t5 t6 : AV) : Kt :=
 bnd (nilO t0) fun v0 =>
 bnd (fadO (C m) 121 v0 4) fun v1 =>
 bnd (ldO (C m) 114 v1) fun v2 =>
 bnd (bltO (C m) .len [114] [v2]) fun v3 =>
 bnd (bltO (C m) .len [114] [t6]) fun v4 =>
 bnd (binO (C m) .add 3 v3 v4) fun v5 =>
 bnd (binO (C m) .gtr 3 v5 (I 64)) fun v6 =>
 ifB v6
 ((bnd (nilO t0) fun v7 =>
 bnd (fadO (C m) 121 v7 5) fun v8 =>
 bnd (ldO (C m) 56 v8) fun v9 =>
 bnd (bslO (C m) 56 1 [(0, t5)]) fun v10 =>
 bnd (bltO (C m) .append [56, 56] [v9, v10]) fun v11 =>
 bnd (nilO t0) fun v12 =>
 bnd (fadO (C m) 121 v12 5) fun v13 =>
 bnd (stO (C m) 56 v13 v11) fun _ =>
 K35_7 m call t0))
 ((bnd (nilO t0) fun v14 =>
 bnd (fadO (C m) 121 v14 4) fun v15 =>
 bnd (ldO (C m) 114 v15) fun v16 =>
 bnd (bltO (C m) .append [114, 114] [v16, t6]) fun v17 =>
 bnd (nilO t0) fun v18 =>
 bnd (fadO (C m) 121 v18 4) fun v19 =>
 bnd (stO (C m) 114 v19 v17) fun _ =>
 K35_7 m call t0))
theorem K35_6_eq (m : Nat) (call : CallF) : compF c35_6 (C m) call (Z35 m) nx (Z35 m) = (fun e => K35_6 m call (e 0) (e 5) (e 6)) := by
  refine Eq.trans (b := (compF (pS1 (pS1 c35_6)) (C m) call (fun e => ifB (e 43) ((compF (pC1 (pS2 (pS1 c35_6))) (C m) call (compF c35_7 (C m) call (Z35 m) nx (Z35 m)) nx (Z35 m)) e) ((compF (pC2 (pS2 (pS1 c35_6))) (C m) call (compF c35_7 (C m) call (Z35 m) nx (Z35 m)) nx (Z35 m)) e)) nx (Z35 m))) (by kernel_rfl) ?_
  rw [K35_7_eq m call ]
  first | done | (show _ = _; kernel_rfl)
noncomputable def K35_5 (m : Nat) (call : CallF) (t0 t5 : AV) : Kt :=
 dIn fun sv0 =>
 dVal (nilO t0) fun v1 =>
 dVal (fadO (C m) 121 v1 0) fun v2 =>
 dChk (ldO (C m) 3 v2) fun v3 =>
 dVal (nilO t0) fun v4 =>
 dVal (fadO (C m) 121 v4 3) fun v5 =>
 dChk (ldO (C m) 103 v5) fun v6 =>
 dEff (calO (C m) call (fnV 73) [v3, t5, v6]) fun v7 sv7 =>
 K35_6 m call t0 t5 v7
theorem K35_5_eq (m : Nat) (call : CallF) : compF c35_5 (C m) call (Z35 m) nx (Z35 m) = (fun e => K35_5 m call (e 0) (e 5)) := by
  refine Eq.trans (b := (compF (pS1 c35_5) (C m) call (compF c35_6 (C m) call (Z35 m) nx (Z35 m)) nx (Z35 m))) (by kernel_rfl) ?_
  rw [K35_6_eq m call ]
  first | done | (show _ = _; kernel_rfl)
noncomputable def K35_4 (m : Nat) (call : CallF) (t0 t5 : AV) : Kt :=
 bnd (calO (C m) call (fnV 72) [t0]) fun v0 =>
 bnd (binO (C m) .eql 3 v0 t5) fun v1 =>
 ifB v1
 ((retV (C m) [(none, (B false))]))
 ((K35_5 m call t0 t5))
theorem K35_4_eq (m : Nat) (call : CallF) : compF c35_4 (C m) call (Z35 m) nx (Z35 m) = (fun e => K35_4 m call (e 0) (e 5)) := by
  refine Eq.trans (b := (compF (pS1 (pS1 c35_4)) (C m) call (fun e => ifB (e 24) ((compF (pS1 (pC1 (pS2 (pS1 c35_4)))) (C m) call (Z35 m) nx (Z35 m)) e) ((compF c35_5 (C m) call (Z35 m) nx (Z35 m)) e)) nx (Z35 m))) (by kernel_rfl) ?_
  rw [K35_5_eq m call ]
  first | done | (show _ = _; kernel_rfl)
noncomputable def K35_3 (m : Nat) (call : CallF) (t0 t1 t5 : AV) : Kt :=
 bnd (nilO t0) fun v0 =>
 bnd (fadO (C m) 121 v0 2) fun v1 =>
 bnd (ldO (C m) 3 v1) fun v2 =>
 bnd (bltO (C m) .min [3, 3] [t1, (I 4294967296)]) fun v3 =>
 bnd (bltO (C m) .max [3, 3] [v2, v3]) fun v4 =>
 bnd (nilO t0) fun v5 =>
 bnd (fadO (C m) 121 v5 2) fun v6 =>
 bnd (stO (C m) 3 v6 v4) fun _ =>
 K35_4 m call t0 t5
theorem K35_3_eq (m : Nat) (call : CallF) : compF c35_3 (C m) call (Z35 m) nx (Z35 m) = (fun e => K35_3 m call (e 0) (e 1) (e 5)) := by
  refine Eq.trans (b := (compF (pS1 c35_3) (C m) call (compF c35_4 (C m) call (Z35 m) nx (Z35 m)) nx (Z35 m))) (by kernel_rfl) ?_
  rw [K35_4_eq m call ]
  first | done | (show _ = _; kernel_rfl)
noncomputable def K35_2 (m : Nat) (call : CallF) (t0 t1 : AV) : Kt :=
 bnd (calO (C m) call (fnV 72) [t0]) fun v0 =>
 K35_3 m call t0 t1 v0
theorem K35_2_eq (m : Nat) (call : CallF) : compF c35_2 (C m) call (Z35 m) nx (Z35 m) = (fun e => K35_2 m call (e 0) (e 1)) := by
  refine Eq.trans (b := (compF (pS1 c35_2) (C m) call (compF c35_3 (C m) call (Z35 m) nx (Z35 m)) nx (Z35 m))) (by kernel_rfl) ?_
  rw [K35_3_eq m call ]
  first | done | (show _ = _; kernel_rfl)
noncomputable def K35_1 (m : Nat) (call : CallF) (t0 t1 : AV) : Kt :=
 bnd (binO (C m) .eql 54 t0 NP) fun v0 =>
 ifB v0
 ((retV (C m) [(none, (B false))]))
 ((K35_2 m call t0 t1))
theorem K35_1_eq (m : Nat) (call : CallF) : compF c35_1 (C m) call (Z35 m) nx (Z35 m) = (fun e => K35_1 m call (e 0) (e 1)) := by
  refine Eq.trans (b := (compF (pS1 (pS1 c35_1)) (C m) call (fun e => ifB (e 8) ((compF (pS1 (pC1 (pS2 (pS1 c35_1)))) (C m) call (Z35 m) nx (Z35 m)) e) ((compF c35_2 (C m) call (Z35 m) nx (Z35 m)) e)) nx (Z35 m))) (by kernel_rfl) ?_
  rw [K35_2_eq m call ]
  first | done | (show _ = _; kernel_rfl)
noncomputable def K35_0 (m : Nat) (call : CallF) (t0 t1 : AV) : Kt :=
 K35_1 m call t0 t1
theorem K35_0_eq (m : Nat) (call : CallF) : compF c35_0 (C m) call (Z35 m) nx (Z35 m) = (fun e => K35_0 m call (e 0) (e 1)) := by
  refine Eq.trans (b := (compF (pS1 c35_0) (C m) call (compF c35_1 (C m) call (Z35 m) nx (Z35 m)) nx (Z35 m))) (by kernel_rfl) ?_
  rw [K35_1_eq m call ]
  first | done | (show _ = _; kernel_rfl)
theorem F35_eq (m : Nat) (call : CallF) (t0 t1 : AV) : enterK (C m) call Tryz.f35 [t0, t1] = K35_0 m call t0 t1 := by
  refine Eq.trans (b := (compF c35_0 (C m) call (Z35 m) nx (Z35 m)) (argF [t0, t1])) (by kernel_rfl) ?_
  rw [K35_0_eq m call]
  first | done | rfl
/-! (*rillmeter/meter.Meter).Epoch -/
noncomputable def c72_0 : Code := (bodyOf Tryz.f72)
noncomputable def Z72 (m : Nat) := fun (e : Nat → AV) => retV (C m) (resE e Tryz.f72.results.toList)
noncomputable def K72_0 (m : Nat) (call : CallF) (t0 : AV) : Kt :=
 bnd (binO (C m) .eql 54 t0 NP) fun v0 =>
 ifB v0
 ((retV (C m) [(none, (I 0))]))
 ((dIn fun sv1 =>
 dVal (nilO t0) fun v2 =>
 dVal (fadO (C m) 121 v2 2) fun v3 =>
 dChk (ldO (C m) 3 v3) fun v4 =>
 dVal (nilO t0) fun v5 =>
 dVal (fadO (C m) 121 v5 1) fun v6 =>
 dChk (ldO (C m) 3 v6) fun v7 =>
 dVal (binO (C m) .quo 3 v4 v7) fun v8 =>
 retV (C m) [(none, v8)]))
theorem K72_0_eq (m : Nat) (call : CallF) : compF c72_0 (C m) call (Z72 m) nx (Z72 m) = (fun e => K72_0 m call (e 0)) := by
  refine Eq.trans (b := (compF (pS1 c72_0) (C m) call (compF (pS1 (pS1 (pS2 c72_0))) (C m) call (fun e => ifB (e 4) ((compF (pS1 (pC1 (pS2 (pS1 (pS2 c72_0))))) (C m) call (Z72 m) nx (Z72 m)) e) ((compF (pS1 (pS2 (pS2 c72_0))) (C m) call (Z72 m) nx (Z72 m)) e)) nx (Z72 m)) nx (Z72 m))) (by kernel_rfl) ?_
  kernel_rfl
theorem F72_eq (m : Nat) (call : CallF) (t0 : AV) : enterK (C m) call Tryz.f72 [t0] = K72_0 m call t0 := by
  refine Eq.trans (b := (compF c72_0 (C m) call (Z72 m) nx (Z72 m)) (argF [t0])) (by kernel_rfl) ?_
  rw [K72_0_eq m call]
  first | done | rfl
/-! (*rillmeter/fabric.Fabric).at -/
noncomputable def c16_0 : Code := (bodyOf Tryz.f16)
noncomputable def c16_1 : Code := (pS2 c16_0)
noncomputable def c16_2 : Code := (pS2 c16_1)
noncomputable def c16_3 : Code := (pS2 c16_2)
noncomputable def c16_4 : Code := (pS2 (pB (pS1 c16_2)))
noncomputable def c16_5 : Code := (pS2 (pC2 c16_4))
noncomputable def c16_6 : Code := (pS2 (pC2 c16_5))
noncomputable def Z16 (m : Nat) := fun (e : Nat → AV) => retV (C m) (resE e Tryz.f16.results.toList)
noncomputable def K16_3 (m : Nat) (call : CallF) (t0 t5 : AV) : Kt :=
 bnd (calO (C m) call (fnV 37) [t5]) fun v0 =>
 bnd (extO v0 0) fun v1 =>
 bnd (extO v0 1) fun v2 =>
 bnd (nilO t0) fun v3 =>
 bnd (fadO (C m) 53 v3 2) fun v4 =>
 bnd (ldO (C m) 37 v4) fun v5 =>
 bnd (bslO (C m) 37 1 [(0, v1)]) fun v6 =>
 bnd (bltO (C m) .append [37, 37] [v5, v6]) fun v7 =>
 bnd (nilO t0) fun v8 =>
 bnd (fadO (C m) 53 v8 2) fun v9 =>
 bnd (stO (C m) 37 v9 v7) fun _ =>
 retV (C m) [(none, (I 0))]
theorem K16_3_eq (m : Nat) (call : CallF) : compF c16_3 (C m) call (Z16 m) nx (Z16 m) = (fun e => K16_3 m call (e 0) (e 5)) := by
  refine Eq.trans (b := (compF (pS1 c16_3) (C m) call (compF (pS1 (pS2 c16_3)) (C m) call (compF (pS1 (pS2 (pS2 c16_3))) (C m) call (Z16 m) nx (Z16 m)) nx (Z16 m)) nx (Z16 m))) (by kernel_rfl) ?_
  kernel_rfl
noncomputable def K16_6 (m : Nat) (call : CallF) (t0 t3 t5 t23 : AV) : Kt :=
 ifB t23
 ((bnd (fadO (C m) 23 t3 2) fun v0 =>
 bnd (ldO (C m) 3 v0) fun v1 =>
 bnd (calO (C m) call (fnV 35) [t5, v1]) fun v2 =>
 retV (C m) [(none, (I 0))]))
 ((bnd (fadO (C m) 23 t3 0) fun v3 =>
 bnd (ldO (C m) 3 v3) fun v4 =>
 bnd (binO (C m) .eql 3 v4 (I 3)) fun v5 =>
 bnd (gdO (wantV v5 true) (fun _ => .val t5)) fun v6 =>
 bnd (gdO (wantV v5 true) (calO (C m) call (fnV 23) [v6])) fun v7 =>
 bnd (gdO (wantV v5 true) (binO (C m) .eql 3 v7 (I 0))) fun v8 =>
 bnd (pickO v5 v8 (B false)) fun v9 =>
 ifB v9
 ((retV (C m) [(none, (I 6))]))
 ((bnd (nilO t0) fun v10 =>
 bnd (fadO (C m) 53 v10 2) fun v11 =>
 bnd (ldO (C m) 37 v11) fun v12 =>
 bnd (bltO (C m) .len [37] [v12]) fun v13 =>
 bnd (binO (C m) .geq 3 v13 (I 256)) fun v14 =>
 ifB v14
 ((retV (C m) [(none, (I 5))]))
 ((bnd (fadO (C m) 23 t3 0) fun v15 =>
 bnd (ldO (C m) 3 v15) fun v16 =>
 bnd (binO (C m) .eql 3 v16 (I 4)) fun v17 =>
 ifB v17
 ((atN 12 fun v18 =>
 dIn fun sv18 =>
 dEff (calO (C m) call (fnV 36) [t5]) fun v19 sv19 =>
 dVal (nilO t0) fun v20 =>
 dVal (fadO (C m) 53 v20 2) fun v21 =>
 dSam (some true) (ldO (C m) 37 v21) (fun v22 => (eqIn (ldO (C m) 37 v21) v22 sv19 && (eqIn (ldO (C m) 37 v21) v22 sv18 && true))) fun v23 =>
 dNew (bslO (C m) 37 1 [(0, v19)]) (Nat.add v18 7) fun v24 =>
 dEff (bltO (C m) .append [37, 37] [v23, v24]) fun v25 sv25 =>
 dVal (nilO t0) fun v26 =>
 dVal (fadO (C m) 53 v26 2) fun v27 =>
 dEff (stO (C m) 37 v27 v25) fun v28 sv28 =>
 retV (C m) [(none, (I 0))]))
 ((K16_3 m call t0 t5))))))))
theorem K16_6_eq (m : Nat) (call : CallF) : compF c16_6 (C m) call (fun e => K16_3 m call (e 0) (e 5)) (exitF 0 (fun e => K16_3 m call (e 0) (e 5)) nx) (Z16 m) = (fun e => K16_6 m call (e 0) (e 3) (e 5) (e 23)) := by
  refine Eq.trans (b := (fun e => ifB (e 23) ((compF (pS1 (pC1 c16_6)) (C m) call (compF (pS1 (pS2 (pC1 c16_6))) (C m) call (Z16 m) (exitF 0 (fun e => K16_3 m call (e 0) (e 5)) nx) (Z16 m)) (exitF 0 (fun e => K16_3 m call (e 0) (e 5)) nx) (Z16 m)) e) ((compF (pS1 (pC2 c16_6)) (C m) call (fun e => ifB (e 31) ((compF (pS1 (pC1 (pS2 (pC2 c16_6)))) (C m) call (Z16 m) (exitF 0 (fun e => K16_3 m call (e 0) (e 5)) nx) (Z16 m)) e) ((compF (pS1 (pC2 (pS2 (pC2 c16_6)))) (C m) call (fun e => ifB (e 40) ((compF (pS1 (pC1 (pS2 (pC2 (pS2 (pC2 c16_6)))))) (C m) call (Z16 m) (exitF 0 (fun e => K16_3 m call (e 0) (e 5)) nx) (Z16 m)) e) ((compF (pS1 (pC2 (pS2 (pC2 (pS2 (pC2 c16_6)))))) (C m) call (fun e => ifB (e 47) ((compF (pS1 (pC1 (pS2 (pC2 (pS2 (pC2 (pS2 (pC2 c16_6)))))))) (C m) call (compF (pS1 (pS2 (pC1 (pS2 (pC2 (pS2 (pC2 (pS2 (pC2 c16_6))))))))) (C m) call (Z16 m) (exitF 0 (fun e => K16_3 m call (e 0) (e 5)) nx) (Z16 m)) (exitF 0 (fun e => K16_3 m call (e 0) (e 5)) nx) (Z16 m)) e) ((fun e => K16_3 m call (e 0) (e 5)) e)) (exitF 0 (fun e => K16_3 m call (e 0) (e 5)) nx) (Z16 m)) e)) (exitF 0 (fun e => K16_3 m call (e 0) (e 5)) nx) (Z16 m)) e)) (exitF 0 (fun e => K16_3 m call (e 0) (e 5)) nx) (Z16 m)) e))) (by kernel_rfl) ?_
  kernel_rfl
noncomputable def K16_5 (m : Nat) (call : CallF) (t0 t3 t5 t15 : AV) : Kt :=
 ifB t15
 ((bnd (fadO (C m) 23 t3 3) fun v0 =>
 bnd (ldO (C m) 9 v0) fun v1 =>
 bnd (calO (C m) call (fnV 34) [t5, v1]) fun v2 =>
 retV (C m) [(none, v2)]))
 ((bnd (fadO (C m) 23 t3 0) fun v3 =>
 bnd (ldO (C m) 3 v3) fun v4 =>
 bnd (binO (C m) .eql 3 v4 (I 2)) fun v5 =>
 K16_6 m call t0 t3 t5 v5))
theorem K16_5_eq (m : Nat) (call : CallF) : compF c16_5 (C m) call (fun e => K16_3 m call (e 0) (e 5)) (exitF 0 (fun e => K16_3 m call (e 0) (e 5)) nx) (Z16 m) = (fun e => K16_5 m call (e 0) (e 3) (e 5) (e 15)) := by
  refine Eq.trans (b := (fun e => ifB (e 15) ((compF (pS1 (pC1 c16_5)) (C m) call (Z16 m) (exitF 0 (fun e => K16_3 m call (e 0) (e 5)) nx) (Z16 m)) e) ((compF (pS1 (pC2 c16_5)) (C m) call (compF c16_6 (C m) call (fun e => K16_3 m call (e 0) (e 5)) (exitF 0 (fun e => K16_3 m call (e 0) (e 5)) nx) (Z16 m)) (exitF 0 (fun e => K16_3 m call (e 0) (e 5)) nx) (Z16 m)) e))) (by kernel_rfl) ?_
  rw [K16_6_eq m call ]
  first | done | (show _ = _; kernel_rfl)
noncomputable def K16_4 (m : Nat) (call : CallF) (t0 t3 t5 t12 : AV) : Kt :=
 ifB t12
 ((retV (C m) [(none, (I 6))]))
 ((bnd (fadO (C m) 23 t3 0) fun v0 =>
 bnd (ldO (C m) 3 v0) fun v1 =>
 bnd (binO (C m) .eql 3 v1 (I 1)) fun v2 =>
 K16_5 m call t0 t3 t5 v2))
theorem K16_4_eq (m : Nat) (call : CallF) : compF c16_4 (C m) call (fun e => K16_3 m call (e 0) (e 5)) (exitF 0 (fun e => K16_3 m call (e 0) (e 5)) nx) (Z16 m) = (fun e => K16_4 m call (e 0) (e 3) (e 5) (e 12)) := by
  refine Eq.trans (b := (fun e => ifB (e 12) ((compF (pS1 (pC1 c16_4)) (C m) call (Z16 m) (exitF 0 (fun e => K16_3 m call (e 0) (e 5)) nx) (Z16 m)) e) ((compF (pS1 (pC2 c16_4)) (C m) call (compF c16_5 (C m) call (fun e => K16_3 m call (e 0) (e 5)) (exitF 0 (fun e => K16_3 m call (e 0) (e 5)) nx) (Z16 m)) (exitF 0 (fun e => K16_3 m call (e 0) (e 5)) nx) (Z16 m)) e))) (by kernel_rfl) ?_
  rw [K16_5_eq m call ]
  first | done | (show _ = _; kernel_rfl)
noncomputable def K16_2 (m : Nat) (call : CallF) (t0 t3 t5 : AV) : Kt :=
 bnd (binO (C m) .eql 54 t5 NP) fun v0 =>
 K16_4 m call t0 t3 t5 v0
theorem K16_2_eq (m : Nat) (call : CallF) : compF c16_2 (C m) call (Z16 m) nx (Z16 m) = (fun e => K16_2 m call (e 0) (e 3) (e 5)) := by
  refine Eq.trans (b := (compF (pS1 (pB (pS1 c16_2))) (C m) call (compF c16_4 (C m) call (compF c16_3 (C m) call (Z16 m) nx (Z16 m)) (exitF 0 (compF c16_3 (C m) call (Z16 m) nx (Z16 m)) nx) (Z16 m)) (exitF 0 (compF c16_3 (C m) call (Z16 m) nx (Z16 m)) nx) (Z16 m))) (by kernel_rfl) ?_
  rw [K16_3_eq m call , K16_4_eq m call ]
  first | done | (show _ = _; kernel_rfl)
noncomputable def K16_1 (m : Nat) (call : CallF) (t0 t3 : AV) : Kt :=
 bnd (fadO (C m) 23 t3 1) fun v0 =>
 bnd (ldO (C m) 3 v0) fun v1 =>
 bnd (calO (C m) call (fnV 21) [t0, v1]) fun v2 =>
 K16_2 m call t0 t3 v2
theorem K16_1_eq (m : Nat) (call : CallF) : compF c16_1 (C m) call (Z16 m) nx (Z16 m) = (fun e => K16_1 m call (e 0) (e 3)) := by
  refine Eq.trans (b := (compF (pS1 c16_1) (C m) call (compF c16_2 (C m) call (Z16 m) nx (Z16 m)) nx (Z16 m))) (by kernel_rfl) ?_
  rw [K16_2_eq m call ]
  first | done | (show _ = _; kernel_rfl)
noncomputable def K16_0 (m : Nat) (call : CallF) (t0 t1 : AV) : Kt :=
 bnd (boxO 23 t1) fun v0 =>
 K16_1 m call t0 v0
theorem K16_0_eq (m : Nat) (call : CallF) : compF c16_0 (C m) call (Z16 m) nx (Z16 m) = (fun e => K16_0 m call (e 0) (e 1)) := by
  refine Eq.trans (b := (compF (pS1 c16_0) (C m) call (compF c16_1 (C m) call (Z16 m) nx (Z16 m)) nx (Z16 m))) (by kernel_rfl) ?_
  rw [K16_1_eq m call ]
  first | done | (show _ = _; kernel_rfl)
theorem F16_eq (m : Nat) (call : CallF) (t0 t1 : AV) : enterK (C m) call Tryz.f16 [t0, t1] = K16_0 m call t0 t1 := by
  refine Eq.trans (b := (compF c16_0 (C m) call (Z16 m) nx (Z16 m)) (argF [t0, t1])) (by kernel_rfl) ?_
  rw [K16_0_eq m call]
  first | done | rfl
/-! (*rillmeter/fabric.Fabric).wire -/
noncomputable def c17_0 : Code := (bodyOf Tryz.f17)
noncomputable def c17_1 : Code := (pS2 c17_0)
noncomputable def c17_2 : Code := (pS2 c17_1)
noncomputable def c17_3 : Code := (pS2 c17_2)
noncomputable def c17_4 : Code := (pS2 (pS1 c17_2))
noncomputable def c17_5 : Code := (pS2 (pB c17_4))
noncomputable def c17_6 : Code := (pS2 (pC2 c17_5))
noncomputable def Z17 (m : Nat) := fun (e : Nat → AV) => retV (C m) (resE e Tryz.f17.results.toList)
noncomputable def K17_3 (m : Nat) (call : CallF) : Kt :=
 retV (C m) [(none, (I 0))]
theorem K17_3_eq (m : Nat) (call : CallF) : compF c17_3 (C m) call (Z17 m) nx (Z17 m) = (fun e => K17_3 m call ) := by
  refine Eq.trans (b := (compF (pS1 c17_3) (C m) call (Z17 m) nx (Z17 m))) (by kernel_rfl) ?_
  kernel_rfl
noncomputable def K17_6 (m : Nat) (call : CallF) (t0 t3 t19 t31 : AV) : Kt :=
 ifB t31
 ((bnd (fadO (C m) 23 t3 2) fun v0 =>
 bnd (ldO (C m) 3 v0) fun v1 =>
 bnd (calO (C m) call (fnV 39) [t0, v1]) fun v2 =>
 K17_3 m call ))
 ((bnd (binO (C m) .eql 3 t19 (I 7)) fun v3 =>
 ifB v3
 ((bnd (nilO t0) fun v4 =>
 bnd (fadO (C m) 53 v4 2) fun v5 =>
 bnd (ldO (C m) 37 v5) fun v6 =>
 bnd (bltO (C m) .len [37] [v6]) fun v7 =>
 bnd (binO (C m) .geq 3 v7 (I 256)) fun v8 =>
 ifB v8
 ((retV (C m) [(none, (I 5))]))
 ((atN 18 fun v9 =>
 dIn fun sv9 =>
 dVal (nilO t0) fun v10 =>
 dVal (fadO (C m) 53 v10 2) fun v11 =>
 dChk (ldO (C m) 37 v11) fun v12 =>
 dVal (nilO t0) fun v13 =>
 dVal (fadO (C m) 53 v13 2) fun v14 =>
 dChk (ldO (C m) 37 v14) fun v15 =>
 dVal (fadO (C m) 23 t3 2) fun v16 =>
 dChk (ldO (C m) 3 v16) fun v17 =>
 dVal (iadO (C m) 37 v15 v17) fun v18 =>
 dChk (ldO (C m) 9 v18) fun v19 =>
 dNew (bslO (C m) 37 1 [(0, v19)]) (Nat.add v9 13) fun v20 =>
 dEff (bltO (C m) .append [37, 37] [v12, v20]) fun v21 sv21 =>
 dVal (nilO t0) fun v22 =>
 dVal (fadO (C m) 53 v22 2) fun v23 =>
 dEff (stO (C m) 37 v23 v21) fun v24 sv24 =>
 K17_3 m call ))))
 ((K17_3 m call ))))
theorem K17_6_eq (m : Nat) (call : CallF) : compF c17_6 (C m) call (fun e => K17_3 m call ) (exitF 0 (fun e => K17_3 m call ) nx) (Z17 m) = (fun e => K17_6 m call (e 0) (e 3) (e 19) (e 31)) := by
  refine Eq.trans (b := (fun e => ifB (e 31) ((compF (pC1 c17_6) (C m) call (fun e => K17_3 m call ) (exitF 0 (fun e => K17_3 m call ) nx) (Z17 m)) e) ((compF (pS1 (pC2 c17_6)) (C m) call (fun e => ifB (e 37) ((compF (pS1 (pS1 (pC1 (pS2 (pC2 c17_6))))) (C m) call (fun e => ifB (e 44) ((compF (pS1 (pC1 (pS2 (pS1 (pC1 (pS2 (pC2 c17_6))))))) (C m) call (Z17 m) (exitF 0 (fun e => K17_3 m call ) nx) (Z17 m)) e) ((compF (pS2 (pC1 (pS2 (pC2 c17_6)))) (C m) call (fun e => K17_3 m call ) (exitF 0 (fun e => K17_3 m call ) nx) (Z17 m)) e)) (exitF 0 (fun e => K17_3 m call ) nx) (Z17 m)) e) ((fun e => K17_3 m call ) e)) (exitF 0 (fun e => K17_3 m call ) nx) (Z17 m)) e))) (by kernel_rfl) ?_
  kernel_rfl
noncomputable def K17_5 (m : Nat) (call : CallF) (t0 t3 t19 t20 : AV) : Kt :=
 ifB t20
 ((dIn fun sv0 =>
 dVal (fadO (C m) 23 t3 2) fun v1 =>
 dChk (ldO (C m) 3 v1) fun v2 =>
 dEff (calO (C m) call (fnV 39) [t0, v2]) fun v3 sv3 =>
 dVal (nilO t0) fun v4 =>
 dVal (fadO (C m) 53 v4 1) fun v5 =>
 dSam (some true) (ldO (C m) 46 v5) (fun v6 => (eqIn (ldO (C m) 46 v5) v6 sv3 && (eqIn (ldO (C m) 46 v5) v6 sv0 && true))) fun v7 =>
 dEff (calO (C m) call (fnV 38) [v7, v3]) fun v8 sv8 =>
 retV (C m) [(none, v8)]))
 ((bnd (binO (C m) .eql 3 t19 (I 6)) fun v9 =>
 K17_6 m call t0 t3 t19 v9))
theorem K17_5_eq (m : Nat) (call : CallF) : compF c17_5 (C m) call (fun e => K17_3 m call ) (exitF 0 (fun e => K17_3 m call ) nx) (Z17 m) = (fun e => K17_5 m call (e 0) (e 3) (e 19) (e 20)) := by
  refine Eq.trans (b := (fun e => ifB (e 20) ((compF (pS1 (pC1 c17_5)) (C m) call (Z17 m) (exitF 0 (fun e => K17_3 m call ) nx) (Z17 m)) e) ((compF (pS1 (pC2 c17_5)) (C m) call (compF c17_6 (C m) call (fun e => K17_3 m call ) (exitF 0 (fun e => K17_3 m call ) nx) (Z17 m)) (exitF 0 (fun e => K17_3 m call ) nx) (Z17 m)) e))) (by kernel_rfl) ?_
  rw [K17_6_eq m call ]
  first | done | (show _ = _; kernel_rfl)
noncomputable def K17_4 (m : Nat) (call : CallF) (t0 t3 t19 : AV) : Kt :=
 bnd (binO (C m) .eql 3 t19 (I 5)) fun v0 =>
 K17_5 m call t0 t3 t19 v0
theorem K17_4_eq (m : Nat) (call : CallF) : compF c17_4 (C m) call (fun e => K17_3 m call ) nx (Z17 m) = (fun e => K17_4 m call (e 0) (e 3) (e 19)) := by
  refine Eq.trans (b := (compF (pS1 (pB c17_4)) (C m) call (compF c17_5 (C m) call (fun e => K17_3 m call ) (exitF 0 (fun e => K17_3 m call ) nx) (Z17 m)) (exitF 0 (fun e => K17_3 m call ) nx) (Z17 m))) (by kernel_rfl) ?_
  rw [K17_5_eq m call ]
  first | done | (show _ = _; kernel_rfl)
noncomputable def K17_2 (m : Nat) (call : CallF) (t0 t3 : AV) : Kt :=
 bnd (fadO (C m) 23 t3 0) fun v0 =>
 bnd (ldO (C m) 3 v0) fun v1 =>
 K17_4 m call t0 t3 v1
theorem K17_2_eq (m : Nat) (call : CallF) : compF c17_2 (C m) call (Z17 m) nx (Z17 m) = (fun e => K17_2 m call (e 0) (e 3)) := by
  refine Eq.trans (b := (compF (pS1 (pS1 c17_2)) (C m) call (compF c17_4 (C m) call (compF c17_3 (C m) call (Z17 m) nx (Z17 m)) nx (Z17 m)) nx (Z17 m))) (by kernel_rfl) ?_
  rw [K17_3_eq m call , K17_4_eq m call ]
  first | done | (show _ = _; kernel_rfl)
noncomputable def K17_1 (m : Nat) (call : CallF) (t0 t3 : AV) : Kt :=
 dIn fun sv0 =>
 dVal (fadO (C m) 23 t3 2) fun v1 =>
 dChk (ldO (C m) 3 v1) fun v2 =>
 dVal (binO (C m) .lss 3 v2 (I 0)) fun v3 =>
 dVal (gdO (wantV v3 false) (fadO (C m) 23 t3 2)) fun v4 =>
 dChk (gdO (wantV v3 false) (ldO (C m) 3 v4)) fun v5 =>
 dVal (gdO (wantV v3 false) (fun _ => .val t0)) fun v6 =>
 dVal (gdO (wantV v3 false) (nilO v6)) fun v7 =>
 dVal (gdO (wantV v3 false) (fadO (C m) 53 v7 2)) fun v8 =>
 dChk (gdO (wantV v3 false) (ldO (C m) 37 v8)) fun v9 =>
 dChk (gdO (wantV v3 false) (bltO (C m) .len [37] [v9])) fun v10 =>
 dVal (gdO (wantV v3 false) (binO (C m) .geq 3 v5 v10)) fun v11 =>
 dVal (pickO v3 (B true) v11) fun v12 =>
 ifB v12
 ((retV (C m) [(none, (I 6))]))
 ((K17_2 m call t0 t3))
theorem K17_1_eq (m : Nat) (call : CallF) : compF c17_1 (C m) call (Z17 m) nx (Z17 m) = (fun e => K17_1 m call (e 0) (e 3)) := by
  refine Eq.trans (b := (compF (pS1 (pS1 c17_1)) (C m) call (fun e => ifB (e 17) ((compF (pS1 (pC1 (pS2 (pS1 c17_1)))) (C m) call (Z17 m) nx (Z17 m)) e) ((compF c17_2 (C m) call (Z17 m) nx (Z17 m)) e)) nx (Z17 m))) (by kernel_rfl) ?_
  rw [K17_2_eq m call ]
  first | done | (show _ = _; kernel_rfl)
noncomputable def K17_0 (m : Nat) (call : CallF) (t0 t1 : AV) : Kt :=
 bnd (boxO 23 t1) fun v0 =>
 K17_1 m call t0 v0
theorem K17_0_eq (m : Nat) (call : CallF) : compF c17_0 (C m) call (Z17 m) nx (Z17 m) = (fun e => K17_0 m call (e 0) (e 1)) := by
  refine Eq.trans (b := (compF (pS1 c17_0) (C m) call (compF c17_1 (C m) call (Z17 m) nx (Z17 m)) nx (Z17 m))) (by kernel_rfl) ?_
  rw [K17_1_eq m call ]
  first | done | (show _ = _; kernel_rfl)
theorem F17_eq (m : Nat) (call : CallF) (t0 t1 : AV) : enterK (C m) call Tryz.f17 [t0, t1] = K17_0 m call t0 t1 := by
  refine Eq.trans (b := (compF c17_0 (C m) call (Z17 m) nx (Z17 m)) (argF [t0, t1])) (by kernel_rfl) ?_
  rw [K17_0_eq m call]
  first | done | rfl
/-! (*rillmeter/fabric.Fabric).Do -/
noncomputable def c8_0 : Code := (bodyOf Tryz.f8)
noncomputable def c8_1 : Code := (pS2 c8_0)
noncomputable def c8_2 : Code := (pS2 c8_1)
noncomputable def Z8 (m : Nat) := fun (e : Nat → AV) => retV (C m) (resE e Tryz.f8.results.toList)
noncomputable def K8_2 (m : Nat) (call : CallF) (t0 : AV) : Kt :=
 bnd (calO (C m) call (fnV 18) [t0]) fun v0 =>
 retV (C m) [(none, (I 0))]
theorem K8_2_eq (m : Nat) (call : CallF) : compF c8_2 (C m) call (Z8 m) nx (Z8 m) = (fun e => K8_2 m call (e 0)) := by
  refine Eq.trans (b := (compF (pS1 c8_2) (C m) call (compF (pS1 (pS2 c8_2)) (C m) call (Z8 m) nx (Z8 m)) nx (Z8 m))) (by kernel_rfl) ?_
  kernel_rfl
noncomputable def K8_1 (m : Nat) (call : CallF) (t0 t3 : AV) : Kt :=
 bnd (binO (C m) .eql 25 t0 NP) fun v0 =>
 bnd (gdO (wantV v0 false) (fadO (C m) 23 t3 0)) fun v1 =>
 bnd (gdO (wantV v0 false) (ldO (C m) 3 v1)) fun v2 =>
 bnd (gdO (wantV v0 false) (binO (C m) .lss 3 v2 (I 1))) fun v3 =>
 bnd (pickO v0 (B true) v3) fun v4 =>
 bnd (gdO (wantV v4 false) (fadO (C m) 23 t3 0)) fun v5 =>
 bnd (gdO (wantV v4 false) (ldO (C m) 3 v5)) fun v6 =>
 bnd (gdO (wantV v4 false) (binO (C m) .gtr 3 v6 (I 8))) fun v7 =>
 bnd (pickO v4 (B true) v7) fun v8 =>
 ifB v8
 ((retV (C m) [(none, (I 1))]))
 ((bnd (fadO (C m) 23 t3 0) fun v9 =>
 bnd (ldO (C m) 3 v9) fun v10 =>
 bnd (binO (C m) .leq 3 v10 (I 4)) fun v11 =>
 ifB v11
 ((bnd (ldO (C m) 23 t3) fun v12 =>
 bnd (calO (C m) call (fnV 16) [t0, v12]) fun v13 =>
 retV (C m) [(none, v13)]))
 ((bnd (fadO (C m) 23 t3 0) fun v14 =>
 bnd (ldO (C m) 3 v14) fun v15 =>
 bnd (binO (C m) .leq 3 v15 (I 7)) fun v16 =>
 ifB v16
 ((bnd (ldO (C m) 23 t3) fun v17 =>
 bnd (calO (C m) call (fnV 17) [t0, v17]) fun v18 =>
 retV (C m) [(none, v18)]))
 ((K8_2 m call t0))))))
theorem K8_1_eq (m : Nat) (call : CallF) : compF c8_1 (C m) call (Z8 m) nx (Z8 m) = (fun e => K8_1 m call (e 0) (e 3)) := by
  refine Eq.trans (b := (compF (pS1 (pB (pS1 c8_1))) (C m) call (fun e => ifB (e 5) ((compF (pS1 (pC1 (pS2 (pB (pS1 c8_1))))) (C m) call (Z8 m) (exitF 0 (compF c8_2 (C m) call (Z8 m) nx (Z8 m)) nx) (Z8 m)) e) ((compF (pS1 (pC2 (pS2 (pB (pS1 c8_1))))) (C m) call (fun e => ifB (e 18) ((compF (pS1 (pC1 (pS2 (pC2 (pS2 (pB (pS1 c8_1))))))) (C m) call (Z8 m) (exitF 0 (compF c8_2 (C m) call (Z8 m) nx (Z8 m)) nx) (Z8 m)) e) ((compF (pS1 (pC2 (pS2 (pC2 (pS2 (pB (pS1 c8_1))))))) (C m) call (fun e => ifB (e 25) ((compF (pS1 (pC1 (pS2 (pC2 (pS2 (pC2 (pS2 (pB (pS1 c8_1))))))))) (C m) call (Z8 m) (exitF 0 (compF c8_2 (C m) call (Z8 m) nx (Z8 m)) nx) (Z8 m)) e) ((compF c8_2 (C m) call (Z8 m) nx (Z8 m)) e)) (exitF 0 (compF c8_2 (C m) call (Z8 m) nx (Z8 m)) nx) (Z8 m)) e)) (exitF 0 (compF c8_2 (C m) call (Z8 m) nx (Z8 m)) nx) (Z8 m)) e)) (exitF 0 (compF c8_2 (C m) call (Z8 m) nx (Z8 m)) nx) (Z8 m))) (by kernel_rfl) ?_
  rw [K8_2_eq m call ]
  first | done | (show _ = _; kernel_rfl)
noncomputable def K8_0 (m : Nat) (call : CallF) (t0 t1 : AV) : Kt :=
 bnd (boxO 23 t1) fun v0 =>
 K8_1 m call t0 v0
theorem K8_0_eq (m : Nat) (call : CallF) : compF c8_0 (C m) call (Z8 m) nx (Z8 m) = (fun e => K8_0 m call (e 0) (e 1)) := by
  refine Eq.trans (b := (compF (pS1 c8_0) (C m) call (compF c8_1 (C m) call (Z8 m) nx (Z8 m)) nx (Z8 m))) (by kernel_rfl) ?_
  rw [K8_1_eq m call ]
  first | done | (show _ = _; kernel_rfl)
theorem F8_eq (m : Nat) (call : CallF) (t0 t1 : AV) : enterK (C m) call Tryz.f8 [t0, t1] = K8_0 m call t0 t1 := by
  refine Eq.trans (b := (compF c8_0 (C m) call (Z8 m) nx (Z8 m)) (argF [t0, t1])) (by kernel_rfl) ?_
  rw [K8_0_eq m call]
  first | done | rfl
/-! (*rillmeter/fabric.Fabric).Meter -/
noncomputable def c21_0 : Code := (bodyOf Tryz.f21)
noncomputable def Z21 (m : Nat) := fun (e : Nat → AV) => retV (C m) (resE e Tryz.f21.results.toList)
noncomputable def K21_0 (m : Nat) (call : CallF) (t0 t1 : AV) : Kt :=
 bnd (binO (C m) .eql 25 t0 NP) fun v0 =>
 bnd (gdO (wantV v0 false) (fun _ => .val t1)) fun v1 =>
 bnd (gdO (wantV v0 false) (binO (C m) .lss 3 v1 (I 1))) fun v2 =>
 bnd (pickO v0 (B true) v2) fun v3 =>
 bnd (gdO (wantV v3 false) (fun _ => .val t1)) fun v4 =>
 bnd (gdO (wantV v3 false) (fun _ => .val t0)) fun v5 =>
 bnd (gdO (wantV v3 false) (nilO v5)) fun v6 =>
 bnd (gdO (wantV v3 false) (fadO (C m) 53 v6 0)) fun v7 =>
 bnd (gdO (wantV v3 false) (ldO (C m) 51 v7)) fun v8 =>
 bnd (gdO (wantV v3 false) (bltO (C m) .len [51] [v8])) fun v9 =>
 bnd (gdO (wantV v3 false) (binO (C m) .gtr 3 v4 v9)) fun v10 =>
 bnd (pickO v3 (B true) v10) fun v11 =>
 ifB v11
 ((retV (C m) [(none, NP)]))
 ((bnd (nilO t0) fun v12 =>
 bnd (fadO (C m) 53 v12 0) fun v13 =>
 bnd (ldO (C m) 51 v13) fun v14 =>
 bnd (binO (C m) .sub 3 t1 (I 1)) fun v15 =>
 bnd (iadO (C m) 51 v14 v15) fun v16 =>
 bnd (ldO (C m) 54 v16) fun v17 =>
 retV (C m) [(none, v17)]))
theorem K21_0_eq (m : Nat) (call : CallF) : compF c21_0 (C m) call (Z21 m) nx (Z21 m) = (fun e => K21_0 m call (e 0) (e 1)) := by
  refine Eq.trans (b := (compF (pS1 c21_0) (C m) call (compF (pS1 (pS1 (pS2 c21_0))) (C m) call (fun e => ifB (e 19) ((compF (pS1 (pC1 (pS2 (pS1 (pS2 c21_0))))) (C m) call (Z21 m) nx (Z21 m)) e) ((compF (pS1 (pS2 (pS2 c21_0))) (C m) call (Z21 m) nx (Z21 m)) e)) nx (Z21 m)) nx (Z21 m))) (by kernel_rfl) ?_
  kernel_rfl
theorem F21_eq (m : Nat) (call : CallF) (t0 t1 : AV) : enterK (C m) call Tryz.f21 [t0, t1] = K21_0 m call t0 t1 := by
  refine Eq.trans (b := (compF c21_0 (C m) call (Z21 m) nx (Z21 m)) (argF [t0, t1])) (by kernel_rfl) ?_
  rw [K21_0_eq m call]
  first | done | rfl
/-! (*sync/atomic.Int64).Add -/
noncomputable def c70_0 : Code := (bodyOf Tryz.f70)
noncomputable def Z70 (m : Nat) := fun (e : Nat → AV) => retV (C m) (resE e Tryz.f70.results.toList)
noncomputable def K70_0 (m : Nat) (call : CallF) (t0 t1 : AV) : Kt :=
 bnd (nilO t0) fun v0 =>
 bnd (fadO (C m) 119 v0 2) fun v1 =>
 bnd (calO (C m) call (fnV 109) [v1, t1]) fun v2 =>
 retV (C m) [(none, v2)]
theorem K70_0_eq (m : Nat) (call : CallF) : compF c70_0 (C m) call (Z70 m) nx (Z70 m) = (fun e => K70_0 m call (e 0) (e 1)) := by
  refine Eq.trans (b := (compF (pS1 c70_0) (C m) call (compF (pS1 (pS2 c70_0)) (C m) call (Z70 m) nx (Z70 m)) nx (Z70 m))) (by kernel_rfl) ?_
  kernel_rfl
theorem F70_eq (m : Nat) (call : CallF) (t0 t1 : AV) : enterK (C m) call Tryz.f70 [t0, t1] = K70_0 m call t0 t1 := by
  refine Eq.trans (b := (compF c70_0 (C m) call (Z70 m) nx (Z70 m)) (argF [t0, t1])) (by kernel_rfl) ?_
  rw [K70_0_eq m call]
  first | done | rfl
/-! rillmeter/rillmeterlaw24.FabricRefuses -/
noncomputable def c3_0 : Code := (bodyOf Tryz.f3)
noncomputable def c3_1 : Code := (pS2 c3_0)
noncomputable def c3_2 : Code := (pS2 c3_1)
noncomputable def c3_3 : Code := (pS2 c3_2)
noncomputable def c3_4 : Code := (pS2 c3_3)
noncomputable def c3_5 : Code := (pS2 c3_4)
noncomputable def c3_6 : Code := (pS2 c3_5)
noncomputable def c3_7 : Code := (pS2 c3_6)
noncomputable def c3_8 : Code := (pS2 c3_7)
noncomputable def Z3 (m : Nat) := fun (e : Nat → AV) => retV (C m) (resE e Tryz.f3.results.toList)
noncomputable def K3_8 (m : Nat) (call : CallF) (t3 t4 t6 t7 : AV) : Kt :=
 bnd (binO (C m) .eql 42 t7 (I 0)) fun v0 =>
 ifB v0
 ((bnd (calO (C m) call (fnV 4) []) fun v1 =>
 retV (C m) [(none, v1)]))
 ((bnd (binO (C m) .eql 42 t6 t7) fun v2 =>
 bnd (gdO (wantV v2 true) (fun _ => .val t3)) fun v3 =>
 bnd (gdO (wantV v2 true) (ldO (C m) 39 t4)) fun v4 =>
 bnd (gdO (wantV v2 true) (calO (C m) call (fnV 9) [v3, v4])) fun v5 =>
 bnd (pickO v2 v5 (B false)) fun v6 =>
 bnd (gdO (wantV v6 true) (calO (C m) call (fnV 4) [])) fun v7 =>
 bnd (pickO v6 v7 (B false)) fun v8 =>
 retV (C m) [(none, v8)]))
theorem K3_8_eq (m : Nat) (call : CallF) : compF c3_8 (C m) call (Z3 m) nx (Z3 m) = (fun e => K3_8 m call (e 3) (e 4) (e 6) (e 7)) := by
  refine Eq.trans (b := (compF (pS1 (pS1 c3_8)) (C m) call (fun e => ifB (e 64) ((compF (pS1 (pC1 (pS2 (pS1 c3_8)))) (C m) call (Z3 m) nx (Z3 m)) e) ((compF (pS1 (pS2 c3_8)) (C m) call (Z3 m) nx (Z3 m)) e)) nx (Z3 m))) (by kernel_rfl) ?_
  kernel_rfl
noncomputable def K3_7 (m : Nat) (call : CallF) (t1 t3 t4 t6 t7 : AV) : Kt :=
 bnd (fadO (C m) 23 t1 0) fun v0 =>
 bnd (ldO (C m) 3 v0) fun v1 =>
 bnd (binO (C m) .lss 3 v1 (I 1)) fun v2 =>
 bnd (gdO (wantV v2 false) (fadO (C m) 23 t1 0)) fun v3 =>
 bnd (gdO (wantV v2 false) (ldO (C m) 3 v3)) fun v4 =>
 bnd (gdO (wantV v2 false) (binO (C m) .gtr 3 v4 (I 8))) fun v5 =>
 bnd (pickO v2 (B true) v5) fun v6 =>
 ifB v6
 ((K3_8 m call t3 t4 t6 (I 1)))
 ((bnd (fadO (C m) 23 t1 0) fun v7 =>
 bnd (ldO (C m) 3 v7) fun v8 =>
 bnd (binO (C m) .leq 3 v8 (I 4)) fun v9 =>
 bnd (gdO (wantV v9 true) (fadO (C m) 23 t1 1)) fun v10 =>
 bnd (gdO (wantV v9 true) (ldO (C m) 3 v10)) fun v11 =>
 bnd (gdO (wantV v9 true) (binO (C m) .lss 3 v11 (I 1))) fun v12 =>
 bnd (gdO (wantV v9 true) (fun _ => .val v12)) fun v13 =>
 bnd (gdO (wantV v13 false) (fadO (C m) 23 t1 1)) fun v14 =>
 bnd (gdO (wantV v13 false) (ldO (C m) 3 v14)) fun v15 =>
 bnd (gdO (wantV v13 false) (binO (C m) .gtr 3 v15 (I 2))) fun v16 =>
 bnd (gdO (wantV v9 true) (pickO v13 (B true) v16)) fun v17 =>
 bnd (pickO v9 v17 (B false)) fun v18 =>
 bnd (gdO (wantV v18 false) (fadO (C m) 23 t1 0)) fun v19 =>
 bnd (gdO (wantV v18 false) (ldO (C m) 3 v19)) fun v20 =>
 bnd (gdO (wantV v18 false) (binO (C m) .eql 3 v20 (I 3))) fun v21 =>
 bnd (pickO v18 (B true) v21) fun v22 =>
 bnd (gdO (wantV v22 false) (fadO (C m) 23 t1 0)) fun v23 =>
 bnd (gdO (wantV v22 false) (ldO (C m) 3 v23)) fun v24 =>
 bnd (gdO (wantV v22 false) (binO (C m) .geq 3 v24 (I 5))) fun v25 =>
 bnd (gdO (wantV v22 false) (fun _ => .val v25)) fun v26 =>
 bnd (gdO (wantV v26 true) (fadO (C m) 23 t1 0)) fun v27 =>
 bnd (gdO (wantV v26 true) (ldO (C m) 3 v27)) fun v28 =>
 bnd (gdO (wantV v26 true) (binO (C m) .leq 3 v28 (I 7))) fun v29 =>
 bnd (gdO (wantV v22 false) (pickO v26 v29 (B false))) fun v30 =>
 bnd (pickO v22 (B true) v30) fun v31 =>
 ifB v31
 ((K3_8 m call t3 t4 t6 (I 6)))
 ((K3_8 m call t3 t4 t6 t7))))
theorem K3_7_eq (m : Nat) (call : CallF) : compF c3_7 (C m) call (Z3 m) nx (Z3 m) = (fun e => K3_7 m call (e 1) (e 3) (e 4) (e 6) (e 7)) := by
  refine Eq.trans (b := (compF (pS1 (pB (pS1 c3_7))) (C m) call (fun e => ifB (e 25) ((compF (pC1 (pS2 (pB (pS1 c3_7)))) (C m) call (compF c3_8 (C m) call (Z3 m) nx (Z3 m)) (exitF 0 (compF c3_8 (C m) call (Z3 m) nx (Z3 m)) nx) (Z3 m)) e) ((compF (pS1 (pC2 (pS2 (pB (pS1 c3_7))))) (C m) call (fun e => ifB (e 34) ((compF (pC1 (pS2 (pC2 (pS2 (pB (pS1 c3_7)))))) (C m) call (compF c3_8 (C m) call (Z3 m) nx (Z3 m)) (exitF 0 (compF c3_8 (C m) call (Z3 m) nx (Z3 m)) nx) (Z3 m)) e) ((compF c3_8 (C m) call (Z3 m) nx (Z3 m)) e)) (exitF 0 (compF c3_8 (C m) call (Z3 m) nx (Z3 m)) nx) (Z3 m)) e)) (exitF 0 (compF c3_8 (C m) call (Z3 m) nx (Z3 m)) nx) (Z3 m))) (by kernel_rfl) ?_
  rw [K3_8_eq m call ]
  first | done | (show _ = _; kernel_rfl)
noncomputable def K3_6 (m : Nat) (call : CallF) (t1 t3 t4 t6 : AV) : Kt :=
 K3_7 m call t1 t3 t4 t6 (I 0)
theorem K3_6_eq (m : Nat) (call : CallF) : compF c3_6 (C m) call (Z3 m) nx (Z3 m) = (fun e => K3_6 m call (e 1) (e 3) (e 4) (e 6)) := by
  refine Eq.trans (b := (compF (pS1 c3_6) (C m) call (compF c3_7 (C m) call (Z3 m) nx (Z3 m)) nx (Z3 m))) (by kernel_rfl) ?_
  rw [K3_7_eq m call ]
  first | done | (show _ = _; kernel_rfl)
noncomputable def K3_5 (m : Nat) (call : CallF) (t1 t3 t4 : AV) : Kt :=
 bnd (ldO (C m) 23 t1) fun v0 =>
 bnd (calO (C m) call (fnV 8) [t3, v0]) fun v1 =>
 K3_6 m call t1 t3 t4 v1
theorem K3_5_eq (m : Nat) (call : CallF) : compF c3_5 (C m) call (Z3 m) nx (Z3 m) = (fun e => K3_5 m call (e 1) (e 3) (e 4)) := by
  refine Eq.trans (b := (compF (pS1 c3_5) (C m) call (compF c3_6 (C m) call (Z3 m) nx (Z3 m)) nx (Z3 m))) (by kernel_rfl) ?_
  rw [K3_6_eq m call ]
  first | done | (show _ = _; kernel_rfl)
noncomputable def K3_4 (m : Nat) (call : CallF) (t1 t3 t4 : AV) : Kt :=
 bnd (binO (C m) .eql 25 t3 NP) fun v0 =>
 ifB v0
 ((retV (C m) [(none, (B false))]))
 ((K3_5 m call t1 t3 t4))
theorem K3_4_eq (m : Nat) (call : CallF) : compF c3_4 (C m) call (Z3 m) nx (Z3 m) = (fun e => K3_4 m call (e 1) (e 3) (e 4)) := by
  refine Eq.trans (b := (compF (pS1 (pS1 c3_4)) (C m) call (fun e => ifB (e 21) ((compF (pS1 (pC1 (pS2 (pS1 c3_4)))) (C m) call (Z3 m) nx (Z3 m)) e) ((compF c3_5 (C m) call (Z3 m) nx (Z3 m)) e)) nx (Z3 m))) (by kernel_rfl) ?_
  rw [K3_5_eq m call ]
  first | done | (show _ = _; kernel_rfl)
noncomputable def K3_3 (m : Nat) (call : CallF) (t1 t3 : AV) : Kt :=
 bnd (calO (C m) call (fnV 6) []) fun v0 =>
 bnd (calO (C m) call (fnV 7) [v0, (I 2), (I 10)]) fun v1 =>
 bnd (extO v1 0) fun v2 =>
 bnd (extO v1 1) fun v3 =>
 bnd (newO (C m) 39) fun v4 =>
 bnd (stO (C m) 39 v4 v2) fun _ =>
 K3_4 m call t1 t3 v4
theorem K3_3_eq (m : Nat) (call : CallF) : compF c3_3 (C m) call (Z3 m) nx (Z3 m) = (fun e => K3_3 m call (e 1) (e 3)) := by
  refine Eq.trans (b := (compF (pS1 c3_3) (C m) call (compF c3_4 (C m) call (Z3 m) nx (Z3 m)) nx (Z3 m))) (by kernel_rfl) ?_
  rw [K3_4_eq m call ]
  first | done | (show _ = _; kernel_rfl)
noncomputable def K3_2 (m : Nat) (call : CallF) (t1 : AV) : Kt :=
 bnd (calO (C m) call (fnV 6) []) fun v0 =>
 bnd (calO (C m) call (fnV 5) [v0, (I 2), (I 10)]) fun v1 =>
 K3_3 m call t1 v1
theorem K3_2_eq (m : Nat) (call : CallF) : compF c3_2 (C m) call (Z3 m) nx (Z3 m) = (fun e => K3_2 m call (e 1)) := by
  refine Eq.trans (b := (compF (pS1 c3_2) (C m) call (compF c3_3 (C m) call (Z3 m) nx (Z3 m)) nx (Z3 m))) (by kernel_rfl) ?_
  rw [K3_3_eq m call ]
  first | done | (show _ = _; kernel_rfl)
noncomputable def K3_1 (m : Nat) (call : CallF) (t1 : AV) : Kt :=
 bnd (fadO (C m) 23 t1 3) fun v0 =>
 bnd (ldO (C m) 9 v0) fun v1 =>
 bnd (bltO (C m) .len [9] [v1]) fun v2 =>
 bnd (binO (C m) .gtr 3 v2 (I 4096)) fun v3 =>
 ifB v3
 ((bnd (calO (C m) call (fnV 4) []) fun v4 =>
 retV (C m) [(none, v4)]))
 ((K3_2 m call t1))
theorem K3_1_eq (m : Nat) (call : CallF) : compF c3_1 (C m) call (Z3 m) nx (Z3 m) = (fun e => K3_1 m call (e 1)) := by
  refine Eq.trans (b := (compF (pS1 (pS1 c3_1)) (C m) call (fun e => ifB (e 11) ((compF (pS1 (pC1 (pS2 (pS1 c3_1)))) (C m) call (Z3 m) nx (Z3 m)) e) ((compF c3_2 (C m) call (Z3 m) nx (Z3 m)) e)) nx (Z3 m))) (by kernel_rfl) ?_
  rw [K3_2_eq m call ]
  first | done | (show _ = _; kernel_rfl)
noncomputable def K3_0 (m : Nat) (call : CallF) (t0 : AV) : Kt :=
 bnd (boxO 23 t0) fun v0 =>
 K3_1 m call v0
theorem K3_0_eq (m : Nat) (call : CallF) : compF c3_0 (C m) call (Z3 m) nx (Z3 m) = (fun e => K3_0 m call (e 0)) := by
  refine Eq.trans (b := (compF (pS1 c3_0) (C m) call (compF c3_1 (C m) call (Z3 m) nx (Z3 m)) nx (Z3 m))) (by kernel_rfl) ?_
  rw [K3_1_eq m call ]
  first | done | (show _ = _; kernel_rfl)
theorem F3_eq (m : Nat) (call : CallF) (t0 : AV) : enterK (C m) call Tryz.f3 [t0] = K3_0 m call t0 := by
  refine Eq.trans (b := (compF c3_0 (C m) call (Z3 m) nx (Z3 m)) (argF [t0])) (by kernel_rfl) ?_
  rw [K3_0_eq m call]
  first | done | rfl
end Go.Proofs.YtnoieleoklpciaaGreatDoor
