/- Functions of the program as plain functions over the interpreter's words, and the theorems that they are what the interpreter makes of the code. -/
import Derived.Test.YtnoieleoklpciaaGreatDoorCx
set_option linter.unusedVariables false
set_option linter.unusedSimpArgs false
namespace Go.Proofs.YtnoieleoklpciaaGreatDoor
open Go.Run
set_option maxRecDepth 100000
open Go
/-! rillmeter/ether.Take -/
noncomputable def c150_0 : Code := (bodyOf Tryz.f150)
noncomputable def c150_1 : Code := (pS2 c150_0)
noncomputable def c150_2 : Code := (pS2 c150_1)
noncomputable def c150_3 : Code := (pS2 c150_2)
noncomputable def c150_4 : Code := (pS2 c150_3)
noncomputable def c150_5 : Code := (pS2 c150_4)
noncomputable def c150_6 : Code := (pL (pB c150_5))
noncomputable def c150_7 : Code := (pS2 (pB c150_6))
noncomputable def c150_8 : Code := (pS2 c150_7)
noncomputable def c150_9 : Code := (pS2 c150_8)
noncomputable def c150_10 : Code := (pS2 c150_9)
noncomputable def Z150 (m : Nat) := fun (e : Nat → AV) => retV (C m) (resE e Tryz.f150.results.toList)
noncomputable def K150_10 (m : Nat) (call : CallF) (h6 : AV → AV → AV → Kt) (t0 t2 t5 t7 : AV) : Kt :=
 bnd (calO (C m) call (fnV 181) [t0, (I 2)]) fun v0 =>
 bnd (extO v0 0) fun v1 =>
 bnd (extO v0 1) fun v2 =>
 bnd (extO v0 2) fun v3 =>
 bnd (fadO (C m) 383 t7 1) fun v4 =>
 bnd (stO (C m) 3 v4 v1) fun _ =>
 bnd (binO (C m) .neq 42 v3 (I 0)) fun v5 =>
 ifB v5
 ((bnd (bldO (C m) 325 []) fun v6 =>
 bnd (stO (C m) 325 t2 v6) fun _ =>
 retV (C m) [(some 325, t2), (none, (S [])), (none, v3)]))
 ((bnd (fadO (C m) 325 t5 2) fun v7 =>
 bnd (ldO (C m) 323 v7) fun v8 =>
 bnd (ldO (C m) 383 t7) fun v9 =>
 bnd (bslO (C m) 323 1 [(0, v9)]) fun v10 =>
 bnd (bltO (C m) .append [323, 323] [v8, v10]) fun v11 =>
 bnd (fadO (C m) 325 t5 2) fun v12 =>
 bnd (stO (C m) 323 v12 v11) fun _ =>
 h6 v2 t2 t5))
theorem K150_10_eq (m : Nat) (call : CallF) (h6 : AV → AV → AV → Kt) : compF c150_10 (C m) call (fun e => h6 (e 0) (e 2) (e 5)) (exitF 1 (fun e => h6 (e 0) (e 2) (e 5)) (exitF 0 (Z150 m) nx)) (Z150 m) = (fun e => K150_10 m call h6 (e 0) (e 2) (e 5) (e 7)) := by
  refine Eq.trans (b := (compF (pS1 (pS1 c150_10)) (C m) call (compF (pS1 (pS2 (pS1 c150_10))) (C m) call (fun e => ifB (e 63) ((compF (pS1 (pC1 (pS2 (pS2 (pS1 c150_10))))) (C m) call (Z150 m) (exitF 1 (fun e => h6 (e 0) (e 2) (e 5)) (exitF 0 (Z150 m) nx)) (Z150 m)) e) ((compF (pS2 c150_10) (C m) call (fun e => h6 (e 0) (e 2) (e 5)) (exitF 1 (fun e => h6 (e 0) (e 2) (e 5)) (exitF 0 (Z150 m) nx)) (Z150 m)) e)) (exitF 1 (fun e => h6 (e 0) (e 2) (e 5)) (exitF 0 (Z150 m) nx)) (Z150 m)) (exitF 1 (fun e => h6 (e 0) (e 2) (e 5)) (exitF 0 (Z150 m) nx)) (Z150 m))) (by kernel_rfl) ?_
  kernel_rfl
noncomputable def K150_9 (m : Nat) (call : CallF) (h6 : AV → AV → AV → Kt) (t0 t2 t5 : AV) : Kt :=
 bnd (fadO (C m) 325 t5 3) fun v0 =>
 bnd (ldO (C m) 3 v0) fun v1 =>
 bnd (bldO (C m) 383 [(0, v1)]) fun v2 =>
 bnd (newO (C m) 383) fun v3 =>
 bnd (stO (C m) 383 v3 v2) fun _ =>
 K150_10 m call h6 t0 t2 t5 v3
theorem K150_9_eq (m : Nat) (call : CallF) (h6 : AV → AV → AV → Kt) : compF c150_9 (C m) call (fun e => h6 (e 0) (e 2) (e 5)) (exitF 1 (fun e => h6 (e 0) (e 2) (e 5)) (exitF 0 (Z150 m) nx)) (Z150 m) = (fun e => K150_9 m call h6 (e 0) (e 2) (e 5)) := by
  refine Eq.trans (b := (compF (pS1 c150_9) (C m) call (compF c150_10 (C m) call (fun e => h6 (e 0) (e 2) (e 5)) (exitF 1 (fun e => h6 (e 0) (e 2) (e 5)) (exitF 0 (Z150 m) nx)) (Z150 m)) (exitF 1 (fun e => h6 (e 0) (e 2) (e 5)) (exitF 0 (Z150 m) nx)) (Z150 m))) (by kernel_rfl) ?_
  rw [K150_10_eq m call h6 ]
  first | done | (show _ = _; kernel_rfl)
noncomputable def K150_8 (m : Nat) (call : CallF) (h6 : AV → AV → AV → Kt) (t0 t2 t5 : AV) : Kt :=
 bnd (fadO (C m) 325 t5 2) fun v0 =>
 bnd (ldO (C m) 323 v0) fun v1 =>
 bnd (bltO (C m) .len [323] [v1]) fun v2 =>
 bnd (binO (C m) .eql 3 v2 (I 2)) fun v3 =>
 ifB v3
 ((bnd (bldO (C m) 325 []) fun v4 =>
 bnd (stO (C m) 325 t2 v4) fun _ =>
 retV (C m) [(some 325, t2), (none, (S [])), (none, (I 9))]))
 ((K150_9 m call h6 t0 t2 t5))
theorem K150_8_eq (m : Nat) (call : CallF) (h6 : AV → AV → AV → Kt) : compF c150_8 (C m) call (fun e => h6 (e 0) (e 2) (e 5)) (exitF 1 (fun e => h6 (e 0) (e 2) (e 5)) (exitF 0 (Z150 m) nx)) (Z150 m) = (fun e => K150_8 m call h6 (e 0) (e 2) (e 5)) := by
  refine Eq.trans (b := (compF (pS1 (pS1 c150_8)) (C m) call (fun e => ifB (e 50) ((compF (pS1 (pC1 (pS2 (pS1 c150_8)))) (C m) call (Z150 m) (exitF 1 (fun e => h6 (e 0) (e 2) (e 5)) (exitF 0 (Z150 m) nx)) (Z150 m)) e) ((compF c150_9 (C m) call (fun e => h6 (e 0) (e 2) (e 5)) (exitF 1 (fun e => h6 (e 0) (e 2) (e 5)) (exitF 0 (Z150 m) nx)) (Z150 m)) e)) (exitF 1 (fun e => h6 (e 0) (e 2) (e 5)) (exitF 0 (Z150 m) nx)) (Z150 m))) (by kernel_rfl) ?_
  rw [K150_9_eq m call h6 ]
  first | done | (show _ = _; kernel_rfl)
noncomputable def K150_7 (m : Nat) (call : CallF) (h6 : AV → AV → AV → Kt) (t0 t2 t5 : AV) : Kt :=
 bnd (fadO (C m) 325 t5 3) fun v0 =>
 bnd (ldO (C m) 3 v0) fun v1 =>
 bnd (calO (C m) call (fnV 209) [v1]) fun v2 =>
 bnd (unO .not v2) fun v3 =>
 ifB v3
 ((bnd (ldO (C m) 325 t5) fun v4 =>
 bnd (stO (C m) 325 t2 v4) fun _ =>
 retV (C m) [(some 325, t2), (none, t0), (none, (I 0))]))
 ((K150_8 m call h6 t0 t2 t5))
theorem K150_7_eq (m : Nat) (call : CallF) (h6 : AV → AV → AV → Kt) : compF c150_7 (C m) call (fun e => h6 (e 0) (e 2) (e 5)) (exitF 1 (fun e => h6 (e 0) (e 2) (e 5)) (exitF 0 (Z150 m) nx)) (Z150 m) = (fun e => K150_7 m call h6 (e 0) (e 2) (e 5)) := by
  refine Eq.trans (b := (compF (pS1 (pS1 c150_7)) (C m) call (fun e => ifB (e 44) ((compF (pS1 (pC1 (pS2 (pS1 c150_7)))) (C m) call (Z150 m) (exitF 1 (fun e => h6 (e 0) (e 2) (e 5)) (exitF 0 (Z150 m) nx)) (Z150 m)) e) ((compF c150_8 (C m) call (fun e => h6 (e 0) (e 2) (e 5)) (exitF 1 (fun e => h6 (e 0) (e 2) (e 5)) (exitF 0 (Z150 m) nx)) (Z150 m)) e)) (exitF 1 (fun e => h6 (e 0) (e 2) (e 5)) (exitF 0 (Z150 m) nx)) (Z150 m))) (by kernel_rfl) ?_
  rw [K150_8_eq m call h6 ]
  first | done | (show _ = _; kernel_rfl)
noncomputable def L150_6_b (m : Nat) (call : CallF) (h6 : AV → AV → AV → Kt) (t0 t2 t5 : AV) : Kt :=
 bnd (calO (C m) call (fnV 181) [t0, (I 2)]) fun v0 =>
 bnd (extO v0 0) fun v1 =>
 bnd (extO v0 1) fun v2 =>
 bnd (extO v0 2) fun v3 =>
 bnd (fadO (C m) 325 t5 3) fun v4 =>
 bnd (stO (C m) 3 v4 v1) fun _ =>
 bnd (binO (C m) .neq 42 v3 (I 0)) fun v5 =>
 ifB v5
 ((bnd (bldO (C m) 325 []) fun v6 =>
 bnd (stO (C m) 325 t2 v6) fun _ =>
 retV (C m) [(some 325, t2), (none, (S [])), (none, v3)]))
 ((K150_7 m call h6 v2 t2 t5))
noncomputable def L150_6 (m : Nat) (call : CallF) (n : Nat) : AV → AV → AV → Kt :=
 Nat.rec (motive := fun _ => AV → AV → AV → Kt) (fun t0 t2 t5 => noK) (fun _ ih => L150_6_b m call ih) n
theorem L150_6_b_eq (m : Nat) (call : CallF) (h6 : AV → AV → AV → Kt) : compF c150_6 (C m) call (fun e => h6 (e 0) (e 2) (e 5)) (exitF 0 (Z150 m) nx) (Z150 m) = fun e => L150_6_b m call h6 (e 0) (e 2) (e 5) := by
  refine Eq.trans (b := (compF (pS1 (pS1 (pB c150_6))) (C m) call (compF (pS1 (pS2 (pS1 (pB c150_6)))) (C m) call (fun e => ifB (e 38) ((compF (pS1 (pC1 (pS2 (pS2 (pS1 (pB c150_6)))))) (C m) call (Z150 m) (exitF 1 (fun e => h6 (e 0) (e 2) (e 5)) (exitF 0 (Z150 m) nx)) (Z150 m)) e) ((compF c150_7 (C m) call (fun e => h6 (e 0) (e 2) (e 5)) (exitF 1 (fun e => h6 (e 0) (e 2) (e 5)) (exitF 0 (Z150 m) nx)) (Z150 m)) e)) (exitF 1 (fun e => h6 (e 0) (e 2) (e 5)) (exitF 0 (Z150 m) nx)) (Z150 m)) (exitF 1 (fun e => h6 (e 0) (e 2) (e 5)) (exitF 0 (Z150 m) nx)) (Z150 m))) (by kernel_rfl) ?_
  rw [K150_7_eq m call h6 ]
  first | done | (show _ = _; kernel_rfl)
theorem L150_6_eq (m : Nat) (call : CallF) (n : Nat) : (loopF (fun k => compF c150_6 (C m) call k (exitF 0 (Z150 m) nx) (Z150 m)) n) = (fun e => L150_6 m call n (e 0) (e 2) (e 5)) := by
  induction n with
  | zero => rfl
  | succ n ih =>
    show compF c150_6 (C m) call (loopF (fun k => compF c150_6 (C m) call k (exitF 0 (Z150 m) nx) (Z150 m)) n) (exitF 0 (Z150 m) nx) (Z150 m) = _
    rw [ih, L150_6_b_eq m call (L150_6 m call n)]
    rfl
theorem L150_6_succ (m : Nat) (call : CallF) (n : Nat) : L150_6 m call (n + 1) = L150_6_b m call (L150_6 m call n) := rfl
noncomputable def K150_5 (m : Nat) (call : CallF) (t0 t2 t5 : AV) : Kt :=
 L150_6 m call m t0 t2 t5
theorem K150_5_eq (m : Nat) (call : CallF) : compF c150_5 (C m) call (Z150 m) nx (Z150 m) = (fun e => K150_5 m call (e 0) (e 2) (e 5)) := by
  refine Eq.trans (b := (loopF (fun k => compF c150_6 (C m) call k (exitF 0 (Z150 m) nx) (Z150 m)) m)) (by kernel_rfl) ?_
  rw [L150_6_eq m call m]
  first | done | (show _ = _; kernel_rfl)
noncomputable def K150_4 (m : Nat) (call : CallF) (t0 t2 t5 : AV) : Kt :=
 bnd (calO (C m) call (fnV 193) [t0, (I 6)]) fun v0 =>
 bnd (extO v0 0) fun v1 =>
 bnd (extO v0 1) fun v2 =>
 bnd (extO v0 2) fun v3 =>
 bnd (fadO (C m) 325 t5 1) fun v4 =>
 bnd (stO (C m) 9 v4 v1) fun _ =>
 bnd (binO (C m) .neq 42 v3 (I 0)) fun v5 =>
 ifB v5
 ((bnd (bldO (C m) 325 []) fun v6 =>
 bnd (stO (C m) 325 t2 v6) fun _ =>
 retV (C m) [(some 325, t2), (none, (S [])), (none, v3)]))
 ((K150_5 m call v2 t2 t5))
theorem K150_4_eq (m : Nat) (call : CallF) : compF c150_4 (C m) call (Z150 m) nx (Z150 m) = (fun e => K150_4 m call (e 0) (e 2) (e 5)) := by
  refine Eq.trans (b := (compF (pS1 (pS1 c150_4)) (C m) call (compF (pS1 (pS2 (pS1 c150_4))) (C m) call (fun e => ifB (e 27) ((compF (pS1 (pC1 (pS2 (pS2 (pS1 c150_4))))) (C m) call (Z150 m) nx (Z150 m)) e) ((compF c150_5 (C m) call (Z150 m) nx (Z150 m)) e)) nx (Z150 m)) nx (Z150 m))) (by kernel_rfl) ?_
  rw [K150_5_eq m call ]
  first | done | (show _ = _; kernel_rfl)
noncomputable def K150_3 (m : Nat) (call : CallF) (t0 t2 t5 : AV) : Kt :=
 bnd (calO (C m) call (fnV 193) [t0, (I 6)]) fun v0 =>
 bnd (extO v0 0) fun v1 =>
 bnd (extO v0 1) fun v2 =>
 bnd (extO v0 2) fun v3 =>
 bnd (fadO (C m) 325 t5 0) fun v4 =>
 bnd (stO (C m) 9 v4 v1) fun _ =>
 bnd (binO (C m) .neq 42 v3 (I 0)) fun v5 =>
 ifB v5
 ((bnd (bldO (C m) 325 []) fun v6 =>
 bnd (stO (C m) 325 t2 v6) fun _ =>
 retV (C m) [(some 325, t2), (none, (S [])), (none, v3)]))
 ((K150_4 m call v2 t2 t5))
theorem K150_3_eq (m : Nat) (call : CallF) : compF c150_3 (C m) call (Z150 m) nx (Z150 m) = (fun e => K150_3 m call (e 0) (e 2) (e 5)) := by
  refine Eq.trans (b := (compF (pS1 (pS1 c150_3)) (C m) call (compF (pS1 (pS2 (pS1 c150_3))) (C m) call (fun e => ifB (e 16) ((compF (pS1 (pC1 (pS2 (pS2 (pS1 c150_3))))) (C m) call (Z150 m) nx (Z150 m)) e) ((compF c150_4 (C m) call (Z150 m) nx (Z150 m)) e)) nx (Z150 m)) nx (Z150 m))) (by kernel_rfl) ?_
  rw [K150_4_eq m call ]
  first | done | (show _ = _; kernel_rfl)
noncomputable def K150_2 (m : Nat) (call : CallF) (t0 t2 t5 : AV) : Kt :=
 K150_3 m call t0 t2 t5
theorem K150_2_eq (m : Nat) (call : CallF) : compF c150_2 (C m) call (Z150 m) nx (Z150 m) = (fun e => K150_2 m call (e 0) (e 2) (e 5)) := by
  refine Eq.trans (b := (compF (pS1 c150_2) (C m) call (compF c150_3 (C m) call (Z150 m) nx (Z150 m)) nx (Z150 m))) (by kernel_rfl) ?_
  rw [K150_3_eq m call ]
  first | done | (show _ = _; kernel_rfl)
noncomputable def K150_1 (m : Nat) (call : CallF) (t0 t2 : AV) : Kt :=
 bnd (newO (C m) 325) fun v0 =>
 K150_2 m call t0 t2 v0
theorem K150_1_eq (m : Nat) (call : CallF) : compF c150_1 (C m) call (Z150 m) nx (Z150 m) = (fun e => K150_1 m call (e 0) (e 2)) := by
  refine Eq.trans (b := (compF (pS1 c150_1) (C m) call (compF c150_2 (C m) call (Z150 m) nx (Z150 m)) nx (Z150 m))) (by kernel_rfl) ?_
  rw [K150_2_eq m call ]
  first | done | (show _ = _; kernel_rfl)
noncomputable def K150_0 (m : Nat) (call : CallF) (t0 : AV) : Kt :=
 bnd (newO (C m) 325) fun v0 =>
 K150_1 m call t0 v0
theorem K150_0_eq (m : Nat) (call : CallF) : compF c150_0 (C m) call (Z150 m) nx (Z150 m) = (fun e => K150_0 m call (e 0)) := by
  refine Eq.trans (b := (compF (pS1 c150_0) (C m) call (compF c150_1 (C m) call (Z150 m) nx (Z150 m)) nx (Z150 m))) (by kernel_rfl) ?_
  rw [K150_1_eq m call ]
  first | done | (show _ = _; kernel_rfl)
theorem F150_eq (m : Nat) (call : CallF) (t0 : AV) : enterK (C m) call Tryz.f150 [t0] = K150_0 m call t0 := by
  refine Eq.trans (b := (compF c150_0 (C m) call (Z150 m) nx (Z150 m)) (argF [t0])) (by kernel_rfl) ?_
  rw [K150_0_eq m call]
  first | done | rfl
/-! rillmeter/port.take -/
noncomputable def c213_0 : Code := (bodyOf Tryz.f213)
noncomputable def Z213 (m : Nat) := fun (e : Nat → AV) => retV (C m) (resE e Tryz.f213.results.toList)
noncomputable def K213_0 (m : Nat) (call : CallF) (t0 t1 : AV) : Kt :=
 bnd (slcO (C m) 9 t0 (some t1) none none) fun v0 =>
 bnd (calO (C m) call (fnV 181) [v0, (I 2)]) fun v1 =>
 bnd (extO v1 0) fun v2 =>
 bnd (extO v1 1) fun v3 =>
 bnd (extO v1 2) fun v4 =>
 retV (C m) [(none, v2)]
theorem K213_0_eq (m : Nat) (call : CallF) : compF c213_0 (C m) call (Z213 m) nx (Z213 m) = (fun e => K213_0 m call (e 0) (e 1)) := by
  refine Eq.trans (b := (compF (pS1 c213_0) (C m) call (compF (pS1 (pS2 c213_0)) (C m) call (compF (pS1 (pS2 (pS2 c213_0))) (C m) call (Z213 m) nx (Z213 m)) nx (Z213 m)) nx (Z213 m))) (by kernel_rfl) ?_
  kernel_rfl
theorem F213_eq (m : Nat) (call : CallF) (t0 t1 : AV) : enterK (C m) call Tryz.f213 [t0, t1] = K213_0 m call t0 t1 := by
  refine Eq.trans (b := (compF c213_0 (C m) call (Z213 m) nx (Z213 m)) (argF [t0, t1])) (by kernel_rfl) ?_
  rw [K213_0_eq m call]
  first | done | rfl
/-! rillmeter/port.Take -/
noncomputable def c152_0 : Code := (bodyOf Tryz.f152)
noncomputable def c152_1 : Code := (pS2 c152_0)
noncomputable def c152_2 : Code := (pS2 c152_1)
noncomputable def c152_3 : Code := (pS2 c152_2)
noncomputable def c152_4 : Code := (pS2 (pS1 c152_2))
noncomputable def c152_5 : Code := (pS2 (pB c152_4))
noncomputable def Z152 (m : Nat) := fun (e : Nat → AV) => retV (C m) (resE e Tryz.f152.results.toList)
noncomputable def K152_3 (m : Nat) (call : CallF) (t1 t8 t9 t10 : AV) : Kt :=
 bnd (bltO (C m) .len [9] [t1]) fun v0 =>
 bnd (binO (C m) .lss 3 v0 t8) fun v1 =>
 bnd (gdO (wantV v1 false) (fun _ => .val t9)) fun v2 =>
 bnd (gdO (wantV v1 false) (fun _ => .val t8)) fun v3 =>
 bnd (gdO (wantV v1 false) (binO (C m) .lss 3 v2 v3)) fun v4 =>
 bnd (pickO v1 (B true) v4) fun v5 =>
 bnd (gdO (wantV v5 false) (fun _ => .val t9)) fun v6 =>
 bnd (gdO (wantV v5 false) (fun _ => .val t10)) fun v7 =>
 bnd (gdO (wantV v5 false) (binO (C m) .gtr 3 v6 v7)) fun v8 =>
 bnd (pickO v5 (B true) v8) fun v9 =>
 bnd (gdO (wantV v9 false) (fun _ => .val t10)) fun v10 =>
 bnd (gdO (wantV v9 false) (fun _ => .val t1)) fun v11 =>
 bnd (gdO (wantV v9 false) (bltO (C m) .len [9] [v11])) fun v12 =>
 bnd (gdO (wantV v9 false) (binO (C m) .gtr 3 v10 v12)) fun v13 =>
 bnd (pickO v9 (B true) v13) fun v14 =>
 ifB v14
 ((retV (C m) [(none, (I 0)), (none, (I 0)), (none, (S [])), (none, (I 16))]))
 ((dIn fun sv15 =>
 dEff (calO (C m) call (fnV 213) [t1, (I 0)]) fun v16 sv16 =>
 dEff (calO (C m) call (fnV 213) [t1, (I 2)]) fun v17 sv17 =>
 dSam (some true) (slcO (C m) 9 t1 (some t9) (some t10) none) (fun v18 => (eqIn (slcO (C m) 9 t1 (some t9) (some t10) none) v18 sv17 && (eqIn (slcO (C m) 9 t1 (some t9) (some t10) none) v18 sv16 && (eqIn (slcO (C m) 9 t1 (some t9) (some t10) none) v18 sv15 && true)))) fun v19 =>
 retV (C m) [(none, v16), (none, v17), (none, v19), (none, (I 0))]))
theorem K152_3_eq (m : Nat) (call : CallF) : compF c152_3 (C m) call (Z152 m) nx (Z152 m) = (fun e => K152_3 m call (e 1) (e 8) (e 9) (e 10)) := by
  refine Eq.trans (b := (compF (pS1 (pS1 c152_3)) (C m) call (fun e => ifB (e 50) ((compF (pS1 (pC1 (pS2 (pS1 c152_3)))) (C m) call (Z152 m) nx (Z152 m)) e) ((compF (pS1 (pS2 c152_3)) (C m) call (Z152 m) nx (Z152 m)) e)) nx (Z152 m))) (by kernel_rfl) ?_
  kernel_rfl
noncomputable def K152_5 (m : Nat) (call : CallF) (t1 t8 t9 t10 t13 t14 : AV) : Kt :=
 ifB t14
 ((bnd (bltO (C m) .len [9] [t1]) fun v0 =>
 bnd (binO (C m) .gtr 3 v0 (I 12)) fun v1 =>
 ifB v1
 ((bnd (idxO (C m) 9 t1 (I 12)) fun v2 =>
 bnd (binO (C m) .shr 5 v2 (Iu 4)) fun v3 =>
 bnd (cvO (C m) 5 3 v3) fun v4 =>
 bnd (binO (C m) .mul 3 (I 4) v4) fun v5 =>
 K152_3 m call t1 t8 v5 t10))
 ((K152_3 m call t1 t8 t9 t10))))
 ((bnd (binO (C m) .eql 3 t13 (I 17)) fun v6 =>
 ifB v6
 ((bnd (bltO (C m) .len [9] [t1]) fun v7 =>
 bnd (binO (C m) .gtr 3 v7 (I 5)) fun v8 =>
 ifB v8
 ((bnd (calO (C m) call (fnV 213) [t1, (I 4)]) fun v9 =>
 K152_3 m call t1 (I 8) (I 8) v9))
 ((K152_3 m call t1 (I 8) (I 8) t10))))
 ((retV (C m) [(none, (I 0)), (none, (I 0)), (none, (S [])), (none, (I 8))]))))
theorem K152_5_eq (m : Nat) (call : CallF) : compF c152_5 (C m) call (fun e => K152_3 m call (e 1) (e 8) (e 9) (e 10)) (exitF 0 (fun e => K152_3 m call (e 1) (e 8) (e 9) (e 10)) nx) (Z152 m) = (fun e => K152_5 m call (e 1) (e 8) (e 9) (e 10) (e 13) (e 14)) := by
  refine Eq.trans (b := (fun e => ifB (e 14) ((compF (pS1 (pC1 c152_5)) (C m) call (fun e => ifB (e 18) ((compF (pC1 (pS2 (pC1 c152_5))) (C m) call (fun e => K152_3 m call (e 1) (e 8) (e 9) (e 10)) (exitF 0 (fun e => K152_3 m call (e 1) (e 8) (e 9) (e 10)) nx) (Z152 m)) e) ((fun e => K152_3 m call (e 1) (e 8) (e 9) (e 10)) e)) (exitF 0 (fun e => K152_3 m call (e 1) (e 8) (e 9) (e 10)) nx) (Z152 m)) e) ((compF (pS1 (pC2 c152_5)) (C m) call (fun e => ifB (e 24) ((compF (pS1 (pC1 (pS2 (pC2 c152_5)))) (C m) call (compF (pS1 (pS2 (pC1 (pS2 (pC2 c152_5))))) (C m) call (fun e => ifB (e 28) ((compF (pC1 (pS2 (pS2 (pC1 (pS2 (pC2 c152_5)))))) (C m) call (fun e => K152_3 m call (e 1) (e 8) (e 9) (e 10)) (exitF 0 (fun e => K152_3 m call (e 1) (e 8) (e 9) (e 10)) nx) (Z152 m)) e) ((fun e => K152_3 m call (e 1) (e 8) (e 9) (e 10)) e)) (exitF 0 (fun e => K152_3 m call (e 1) (e 8) (e 9) (e 10)) nx) (Z152 m)) (exitF 0 (fun e => K152_3 m call (e 1) (e 8) (e 9) (e 10)) nx) (Z152 m)) e) ((compF (pS1 (pC2 (pS2 (pC2 c152_5)))) (C m) call (Z152 m) (exitF 0 (fun e => K152_3 m call (e 1) (e 8) (e 9) (e 10)) nx) (Z152 m)) e)) (exitF 0 (fun e => K152_3 m call (e 1) (e 8) (e 9) (e 10)) nx) (Z152 m)) e))) (by kernel_rfl) ?_
  kernel_rfl
noncomputable def K152_4 (m : Nat) (call : CallF) (t1 t8 t9 t10 t13 : AV) : Kt :=
 bnd (binO (C m) .eql 3 t13 (I 6)) fun v0 =>
 K152_5 m call t1 t8 t9 t10 t13 v0
theorem K152_4_eq (m : Nat) (call : CallF) : compF c152_4 (C m) call (fun e => K152_3 m call (e 1) (e 8) (e 9) (e 10)) nx (Z152 m) = (fun e => K152_4 m call (e 1) (e 8) (e 9) (e 10) (e 13)) := by
  refine Eq.trans (b := (compF (pS1 (pB c152_4)) (C m) call (compF c152_5 (C m) call (fun e => K152_3 m call (e 1) (e 8) (e 9) (e 10)) (exitF 0 (fun e => K152_3 m call (e 1) (e 8) (e 9) (e 10)) nx) (Z152 m)) (exitF 0 (fun e => K152_3 m call (e 1) (e 8) (e 9) (e 10)) nx) (Z152 m))) (by kernel_rfl) ?_
  rw [K152_5_eq m call ]
  first | done | (show _ = _; kernel_rfl)
noncomputable def K152_2 (m : Nat) (call : CallF) (t0 t1 t8 t9 t10 : AV) : Kt :=
 K152_4 m call t1 t8 t9 t10 t0
theorem K152_2_eq (m : Nat) (call : CallF) : compF c152_2 (C m) call (Z152 m) nx (Z152 m) = (fun e => K152_2 m call (e 0) (e 1) (e 8) (e 9) (e 10)) := by
  refine Eq.trans (b := (compF (pS1 (pS1 c152_2)) (C m) call (compF c152_4 (C m) call (compF c152_3 (C m) call (Z152 m) nx (Z152 m)) nx (Z152 m)) nx (Z152 m))) (by kernel_rfl) ?_
  rw [K152_3_eq m call , K152_4_eq m call ]
  first | done | (show _ = _; kernel_rfl)
noncomputable def K152_1 (m : Nat) (call : CallF) (t0 t1 : AV) : Kt :=
 bnd (bltO (C m) .len [9] [t1]) fun v0 =>
 K152_2 m call t0 t1 (I 20) (I 0) v0
theorem K152_1_eq (m : Nat) (call : CallF) : compF c152_1 (C m) call (Z152 m) nx (Z152 m) = (fun e => K152_1 m call (e 0) (e 1)) := by
  refine Eq.trans (b := (compF (pS1 c152_1) (C m) call (compF c152_2 (C m) call (Z152 m) nx (Z152 m)) nx (Z152 m))) (by kernel_rfl) ?_
  rw [K152_2_eq m call ]
  first | done | (show _ = _; kernel_rfl)
noncomputable def K152_0 (m : Nat) (call : CallF) (t0 t1 : AV) : Kt :=
 K152_1 m call t0 t1
theorem K152_0_eq (m : Nat) (call : CallF) : compF c152_0 (C m) call (Z152 m) nx (Z152 m) = (fun e => K152_0 m call (e 0) (e 1)) := by
  refine Eq.trans (b := (compF (pS1 c152_0) (C m) call (compF c152_1 (C m) call (Z152 m) nx (Z152 m)) nx (Z152 m))) (by kernel_rfl) ?_
  rw [K152_1_eq m call ]
  first | done | (show _ = _; kernel_rfl)
theorem F152_eq (m : Nat) (call : CallF) (t0 t1 : AV) : enterK (C m) call Tryz.f152 [t0, t1] = K152_0 m call t0 t1 := by
  refine Eq.trans (b := (compF c152_0 (C m) call (Z152 m) nx (Z152 m)) (argF [t0, t1])) (by kernel_rfl) ?_
  rw [K152_0_eq m call]
  first | done | rfl
/-! rillmeter/octet.Sum -/
noncomputable def c258_0 : Code := (bodyOf Tryz.f258)
noncomputable def c258_1 : Code := (pS2 c258_0)
noncomputable def c258_2 : Code := (pS2 c258_1)
noncomputable def c258_3 : Code := (pS2 c258_2)
noncomputable def c258_4 : Code := (pS2 c258_3)
noncomputable def c258_5 : Code := (pL (pB (pS1 c258_3)))
noncomputable def c258_6 : Code := (pS2 (pS1 c258_2))
noncomputable def c258_7 : Code := (pL (pB c258_6))
noncomputable def c258_8 : Code := (pS2 c258_7)
noncomputable def c258_9 : Code := (pS2 c258_8)
noncomputable def c258_10 : Code := (pS2 c258_9)
noncomputable def Z258 (m : Nat) := fun (e : Nat → AV) => retV (C m) (resE e Tryz.f258.results.toList)
noncomputable def K258_4 (m : Nat) (call : CallF) (t3 : AV) : Kt :=
 bnd (binO (C m) .xor 3 t3 (I 65535)) fun v0 =>
 retV (C m) [(none, v0)]
theorem K258_4_eq (m : Nat) (call : CallF) : compF c258_4 (C m) call (Z258 m) nx (Z258 m) = (fun e => K258_4 m call (e 3)) := by
  refine Eq.trans (b := (compF (pS1 c258_4) (C m) call (Z258 m) nx (Z258 m))) (by kernel_rfl) ?_
  kernel_rfl
noncomputable def L258_5_b (m : Nat) (call : CallF) (h5 : AV → Kt) (t3 : AV) : Kt :=
 bnd (binO (C m) .gtr 3 t3 (I 65535)) fun v0 =>
 ifB v0
 ((bnd (binO (C m) .and 3 t3 (I 65535)) fun v1 =>
 bnd (binO (C m) .shr 3 t3 (Iu 16)) fun v2 =>
 bnd (binO (C m) .add 3 v1 v2) fun v3 =>
 h5 v3))
 ((K258_4 m call t3))
noncomputable def L258_5 (m : Nat) (call : CallF) (n : Nat) : AV → Kt :=
 Nat.rec (motive := fun _ => AV → Kt) (fun t3 => noK) (fun _ ih => L258_5_b m call ih) n
theorem L258_5_b_eq (m : Nat) (call : CallF) (h5 : AV → Kt) : compF c258_5 (C m) call (fun e => h5 (e 3)) (exitF 2 (fun e => K258_4 m call (e 3)) nx) (Z258 m) = fun e => L258_5_b m call h5 (e 3) := by
  refine Eq.trans (b := (compF (pS1 (pS1 c258_5)) (C m) call (fun e => ifB (e 23) ((compF (pB (pS2 c258_5)) (C m) call (fun e => h5 (e 3)) (exitF 3 (fun e => h5 (e 3)) (exitF 2 (fun e => K258_4 m call (e 3)) nx)) (Z258 m)) e) ((fun e => K258_4 m call (e 3)) e)) (exitF 2 (fun e => K258_4 m call (e 3)) nx) (Z258 m))) (by kernel_rfl) ?_
  kernel_rfl
theorem L258_5_eq (m : Nat) (call : CallF) (n : Nat) : (loopF (fun k => compF c258_5 (C m) call k (exitF 2 (fun e => K258_4 m call (e 3)) nx) (Z258 m)) n) = (fun e => L258_5 m call n (e 3)) := by
  induction n with
  | zero => rfl
  | succ n ih =>
    show compF c258_5 (C m) call (loopF (fun k => compF c258_5 (C m) call k (exitF 2 (fun e => K258_4 m call (e 3)) nx) (Z258 m)) n) (exitF 2 (fun e => K258_4 m call (e 3)) nx) (Z258 m) = _
    rw [ih, L258_5_b_eq m call (L258_5 m call n)]
    rfl
theorem L258_5_succ (m : Nat) (call : CallF) (n : Nat) : L258_5 m call (n + 1) = L258_5_b m call (L258_5 m call n) := rfl
noncomputable def K258_3 (m : Nat) (call : CallF) (t3 : AV) : Kt :=
 L258_5 m call m t3
theorem K258_3_eq (m : Nat) (call : CallF) : compF c258_3 (C m) call (Z258 m) nx (Z258 m) = (fun e => K258_3 m call (e 3)) := by
  refine Eq.trans (b := (loopF (fun k => compF c258_5 (C m) call k (exitF 2 (compF c258_4 (C m) call (Z258 m) nx (Z258 m)) nx) (Z258 m)) m)) (by kernel_rfl) ?_
  rw [K258_4_eq m call , L258_5_eq m call m]
  first | done | (show _ = _; kernel_rfl)
noncomputable def K258_10 (m : Nat) (call : CallF) (h7 : AV → AV → AV → AV → Kt) (t0 t3 t6 t7 : AV) : Kt :=
 bnd (binO (C m) .add 3 t7 (I 1)) fun v0 =>
 h7 t0 t3 t6 v0
theorem K258_10_eq (m : Nat) (call : CallF) (h7 : AV → AV → AV → AV → Kt) : compF c258_10 (C m) call (fun e => h7 (e 0) (e 3) (e 6) (e 7)) (exitF 0 (fun e => K258_3 m call (e 3)) nx) (Z258 m) = (fun e => K258_10 m call h7 (e 0) (e 3) (e 6) (e 7)) := by
  kernel_rfl
noncomputable def K258_9 (m : Nat) (call : CallF) (h7 : AV → AV → AV → AV → Kt) (t0 t3 t6 t7 : AV) : Kt :=
 bnd (idxO (C m) 9 t0 t7) fun v0 =>
 bnd (cvO (C m) 5 3 v0) fun v1 =>
 bnd (binO (C m) .and 3 t7 (I 1)) fun v2 =>
 bnd (binO (C m) .sub 3 (I 1) v2) fun v3 =>
 bnd (binO (C m) .mul 3 (I 8) v3) fun v4 =>
 bnd (binO (C m) .shl 3 v1 v4) fun v5 =>
 bnd (binO (C m) .add 3 t3 v5) fun v6 =>
 K258_10 m call h7 t0 v6 t6 t7
theorem K258_9_eq (m : Nat) (call : CallF) (h7 : AV → AV → AV → AV → Kt) : compF c258_9 (C m) call (fun e => h7 (e 0) (e 3) (e 6) (e 7)) (exitF 0 (fun e => K258_3 m call (e 3)) nx) (Z258 m) = (fun e => K258_9 m call h7 (e 0) (e 3) (e 6) (e 7)) := by
  refine Eq.trans (b := (compF (pS1 (pB (pS1 c258_9))) (C m) call (compF (pS2 (pB (pS1 c258_9))) (C m) call (compF c258_10 (C m) call (fun e => h7 (e 0) (e 3) (e 6) (e 7)) (exitF 0 (fun e => K258_3 m call (e 3)) nx) (Z258 m)) (exitF 1 (compF c258_10 (C m) call (fun e => h7 (e 0) (e 3) (e 6) (e 7)) (exitF 0 (fun e => K258_3 m call (e 3)) nx) (Z258 m)) (exitF 0 (fun e => K258_3 m call (e 3)) nx)) (Z258 m)) (exitF 1 (compF c258_10 (C m) call (fun e => h7 (e 0) (e 3) (e 6) (e 7)) (exitF 0 (fun e => K258_3 m call (e 3)) nx) (Z258 m)) (exitF 0 (fun e => K258_3 m call (e 3)) nx)) (Z258 m))) (by kernel_rfl) ?_
  rw [K258_10_eq m call h7 ]
  first | done | (show _ = _; kernel_rfl)
noncomputable def K258_8 (m : Nat) (call : CallF) (h7 : AV → AV → AV → AV → Kt) (t0 t3 t6 t7 t8 : AV) : Kt :=
 ifB t8
 ((K258_9 m call h7 t0 t3 t6 t7))
 ((K258_3 m call t3))
theorem K258_8_eq (m : Nat) (call : CallF) (h7 : AV → AV → AV → AV → Kt) : compF c258_8 (C m) call (fun e => h7 (e 0) (e 3) (e 6) (e 7)) (exitF 0 (fun e => K258_3 m call (e 3)) nx) (Z258 m) = (fun e => K258_8 m call h7 (e 0) (e 3) (e 6) (e 7) (e 8)) := by
  refine Eq.trans (b := (fun e => ifB (e 8) ((compF c258_9 (C m) call (fun e => h7 (e 0) (e 3) (e 6) (e 7)) (exitF 0 (fun e => K258_3 m call (e 3)) nx) (Z258 m)) e) ((fun e => K258_3 m call (e 3)) e))) (by kernel_rfl) ?_
  rw [K258_9_eq m call h7 ]
  first | done | (show _ = _; kernel_rfl)
noncomputable def L258_7_b (m : Nat) (call : CallF) (h7 : AV → AV → AV → AV → Kt) (t0 t3 t6 t7 : AV) : Kt :=
 bnd (binO (C m) .lss 3 t7 t6) fun v0 =>
 K258_8 m call h7 t0 t3 t6 t7 v0
noncomputable def L258_7 (m : Nat) (call : CallF) (n : Nat) : AV → AV → AV → AV → Kt :=
 Nat.rec (motive := fun _ => AV → AV → AV → AV → Kt) (fun t0 t3 t6 t7 => noK) (fun _ ih => L258_7_b m call ih) n
theorem L258_7_b_eq (m : Nat) (call : CallF) (h7 : AV → AV → AV → AV → Kt) : compF c258_7 (C m) call (fun e => h7 (e 0) (e 3) (e 6) (e 7)) (exitF 0 (fun e => K258_3 m call (e 3)) nx) (Z258 m) = fun e => L258_7_b m call h7 (e 0) (e 3) (e 6) (e 7) := by
  refine Eq.trans (b := (compF (pS1 c258_7) (C m) call (compF c258_8 (C m) call (fun e => h7 (e 0) (e 3) (e 6) (e 7)) (exitF 0 (fun e => K258_3 m call (e 3)) nx) (Z258 m)) (exitF 0 (fun e => K258_3 m call (e 3)) nx) (Z258 m))) (by kernel_rfl) ?_
  rw [K258_8_eq m call h7 ]
  first | done | (show _ = _; kernel_rfl)
theorem L258_7_eq (m : Nat) (call : CallF) (n : Nat) : (loopF (fun k => compF c258_7 (C m) call k (exitF 0 (fun e => K258_3 m call (e 3)) nx) (Z258 m)) n) = (fun e => L258_7 m call n (e 0) (e 3) (e 6) (e 7)) := by
  induction n with
  | zero => rfl
  | succ n ih =>
    show compF c258_7 (C m) call (loopF (fun k => compF c258_7 (C m) call k (exitF 0 (fun e => K258_3 m call (e 3)) nx) (Z258 m)) n) (exitF 0 (fun e => K258_3 m call (e 3)) nx) (Z258 m) = _
    rw [ih, L258_7_b_eq m call (L258_7 m call n)]
    rfl
theorem L258_7_succ (m : Nat) (call : CallF) (n : Nat) : L258_7 m call (n + 1) = L258_7_b m call (L258_7 m call n) := rfl
noncomputable def K258_6 (m : Nat) (call : CallF) (t0 t3 t6 t7 : AV) : Kt :=
 L258_7 m call m t0 t3 t6 t7
theorem K258_6_eq (m : Nat) (call : CallF) : compF c258_6 (C m) call (fun e => K258_3 m call (e 3)) nx (Z258 m) = (fun e => K258_6 m call (e 0) (e 3) (e 6) (e 7)) := by
  refine Eq.trans (b := (loopF (fun k => compF c258_7 (C m) call k (exitF 0 (fun e => K258_3 m call (e 3)) nx) (Z258 m)) m)) (by kernel_rfl) ?_
  rw [L258_7_eq m call m]
  first | done | (show _ = _; kernel_rfl)
noncomputable def K258_2 (m : Nat) (call : CallF) (t0 t3 : AV) : Kt :=
 bnd (bltO (C m) .len [9] [t0]) fun v0 =>
 K258_6 m call t0 t3 v0 (I 0)
theorem K258_2_eq (m : Nat) (call : CallF) : compF c258_2 (C m) call (Z258 m) nx (Z258 m) = (fun e => K258_2 m call (e 0) (e 3)) := by
  refine Eq.trans (b := (compF (pS1 (pS1 c258_2)) (C m) call (compF c258_6 (C m) call (compF c258_3 (C m) call (Z258 m) nx (Z258 m)) nx (Z258 m)) nx (Z258 m))) (by kernel_rfl) ?_
  rw [K258_3_eq m call , K258_6_eq m call ]
  first | done | (show _ = _; kernel_rfl)
noncomputable def K258_1 (m : Nat) (call : CallF) (t0 : AV) : Kt :=
 K258_2 m call t0 (I 0)
theorem K258_1_eq (m : Nat) (call : CallF) : compF c258_1 (C m) call (Z258 m) nx (Z258 m) = (fun e => K258_1 m call (e 0)) := by
  refine Eq.trans (b := (compF (pS1 c258_1) (C m) call (compF c258_2 (C m) call (Z258 m) nx (Z258 m)) nx (Z258 m))) (by kernel_rfl) ?_
  rw [K258_2_eq m call ]
  first | done | (show _ = _; kernel_rfl)
noncomputable def K258_0 (m : Nat) (call : CallF) (t0 : AV) : Kt :=
 K258_1 m call t0
theorem K258_0_eq (m : Nat) (call : CallF) : compF c258_0 (C m) call (Z258 m) nx (Z258 m) = (fun e => K258_0 m call (e 0)) := by
  refine Eq.trans (b := (compF (pS1 c258_0) (C m) call (compF c258_1 (C m) call (Z258 m) nx (Z258 m)) nx (Z258 m))) (by kernel_rfl) ?_
  rw [K258_1_eq m call ]
  first | done | (show _ = _; kernel_rfl)
theorem F258_eq (m : Nat) (call : CallF) (t0 : AV) : enterK (C m) call Tryz.f258 [t0] = K258_0 m call t0 := by
  refine Eq.trans (b := (compF c258_0 (C m) call (Z258 m) nx (Z258 m)) (argF [t0])) (by kernel_rfl) ?_
  rw [K258_0_eq m call]
  first | done | rfl
/-! rillmeter/ipfour.take -/
noncomputable def c257_0 : Code := (bodyOf Tryz.f257)
noncomputable def Z257 (m : Nat) := fun (e : Nat → AV) => retV (C m) (resE e Tryz.f257.results.toList)
noncomputable def K257_0 (m : Nat) (call : CallF) (t0 t1 t2 : AV) : Kt :=
 bnd (slcO (C m) 9 t0 (some t1) none none) fun v0 =>
 bnd (calO (C m) call (fnV 181) [v0, t2]) fun v1 =>
 bnd (extO v1 0) fun v2 =>
 bnd (extO v1 1) fun v3 =>
 bnd (extO v1 2) fun v4 =>
 retV (C m) [(none, v2)]
theorem K257_0_eq (m : Nat) (call : CallF) : compF c257_0 (C m) call (Z257 m) nx (Z257 m) = (fun e => K257_0 m call (e 0) (e 1) (e 2)) := by
  refine Eq.trans (b := (compF (pS1 c257_0) (C m) call (compF (pS1 (pS2 c257_0)) (C m) call (compF (pS1 (pS2 (pS2 c257_0))) (C m) call (Z257 m) nx (Z257 m)) nx (Z257 m)) nx (Z257 m))) (by kernel_rfl) ?_
  kernel_rfl
theorem F257_eq (m : Nat) (call : CallF) (t0 t1 t2 : AV) : enterK (C m) call Tryz.f257 [t0, t1, t2] = K257_0 m call t0 t1 t2 := by
  refine Eq.trans (b := (compF c257_0 (C m) call (Z257 m) nx (Z257 m)) (argF [t0, t1, t2])) (by kernel_rfl) ?_
  rw [K257_0_eq m call]
  first | done | rfl
/-! rillmeter/ipfour.Take -/
noncomputable def c210_0 : Code := (bodyOf Tryz.f210)
noncomputable def c210_1 : Code := (pS2 c210_0)
noncomputable def c210_2 : Code := (pS2 c210_1)
noncomputable def c210_3 : Code := (pS2 c210_2)
noncomputable def c210_4 : Code := (pS2 c210_3)
noncomputable def c210_5 : Code := (pS2 (pB (pS1 c210_3)))
noncomputable def Z210 (m : Nat) := fun (e : Nat → AV) => retV (C m) (resE e Tryz.f210.results.toList)
noncomputable def K210_4 (m : Nat) (call : CallF) (t0 t2 t5 t6 : AV) : Kt :=
 bnd (calO (C m) call (fnV 257) [t0, (I 6), (I 2)]) fun v0 =>
 atN 22 fun v1 =>
 dIn fun sv1 =>
 dEff (calO (C m) call (fnV 257) [t0, (I 1), (I 1)]) fun v2 sv2 =>
 dEff (calO (C m) call (fnV 257) [t0, (I 4), (I 2)]) fun v3 sv3 =>
 dEff (calO (C m) call (fnV 257) [t0, (I 8), (I 1)]) fun v4 sv4 =>
 dEff (calO (C m) call (fnV 257) [t0, (I 9), (I 1)]) fun v5 sv5 =>
 dVal (binO (C m) .shr 3 v0 (Iu 13)) fun v6 =>
 dVal (binO (C m) .and 3 v0 (I 8191)) fun v7 =>
 dSam (some true) (slcO (C m) 9 t0 (some (I 12)) (some (I 16)) none) (fun v8 => (eqIn (slcO (C m) 9 t0 (some (I 12)) (some (I 16)) none) v8 sv5 && (eqIn (slcO (C m) 9 t0 (some (I 12)) (some (I 16)) none) v8 sv4 && (eqIn (slcO (C m) 9 t0 (some (I 12)) (some (I 16)) none) v8 sv3 && (eqIn (slcO (C m) 9 t0 (some (I 12)) (some (I 16)) none) v8 sv2 && (eqIn (slcO (C m) 9 t0 (some (I 12)) (some (I 16)) none) v8 sv1 && true)))))) fun v9 =>
 dSam (some true) (slcO (C m) 9 t0 (some (I 16)) (some (I 20)) none) (fun v10 => (eqIn (slcO (C m) 9 t0 (some (I 16)) (some (I 20)) none) v10 sv5 && (eqIn (slcO (C m) 9 t0 (some (I 16)) (some (I 20)) none) v10 sv4 && (eqIn (slcO (C m) 9 t0 (some (I 16)) (some (I 20)) none) v10 sv3 && (eqIn (slcO (C m) 9 t0 (some (I 16)) (some (I 20)) none) v10 sv2 && (eqIn (slcO (C m) 9 t0 (some (I 16)) (some (I 20)) none) v10 sv1 && true)))))) fun v11 =>
 dSam (some true) (slcO (C m) 9 t0 (some (I 20)) (some t5) none) (fun v12 => (eqIn (slcO (C m) 9 t0 (some (I 20)) (some t5) none) v12 sv5 && (eqIn (slcO (C m) 9 t0 (some (I 20)) (some t5) none) v12 sv4 && (eqIn (slcO (C m) 9 t0 (some (I 20)) (some t5) none) v12 sv3 && (eqIn (slcO (C m) 9 t0 (some (I 20)) (some t5) none) v12 sv2 && (eqIn (slcO (C m) 9 t0 (some (I 20)) (some t5) none) v12 sv1 && true)))))) fun v13 =>
 dVal (bldO (C m) 385 [(0, v2), (1, v3), (2, v6), (3, v7), (4, v4), (5, v5), (6, v9), (7, v11), (8, v13)]) fun v14 =>
 dNew (newO (C m) 385) (Nat.add v1 20) fun v15 =>
 dEff (stO (C m) 385 v15 v14) fun v16 sv16 =>
 dIn fun sv17 =>
 dChk (ldO (C m) 385 v15) fun v18 =>
 dEff (stO (C m) 385 t2 v18) fun v19 sv19 =>
 dSam (some true) (slcO (C m) 9 t0 (some t5) (some t6) none) (fun v20 => (eqIn (slcO (C m) 9 t0 (some t5) (some t6) none) v20 sv19 && (eqIn (slcO (C m) 9 t0 (some t5) (some t6) none) v20 sv17 && true))) fun v21 =>
 retV (C m) [(some 385, t2), (none, v21), (none, (I 0))]
theorem K210_4_eq (m : Nat) (call : CallF) : compF c210_4 (C m) call (Z210 m) nx (Z210 m) = (fun e => K210_4 m call (e 0) (e 2) (e 5) (e 6)) := by
  refine Eq.trans (b := (compF (pS1 c210_4) (C m) call (compF (pS1 (pS2 c210_4)) (C m) call (compF (pS1 (pS2 (pS2 c210_4))) (C m) call (Z210 m) nx (Z210 m)) nx (Z210 m)) nx (Z210 m))) (by kernel_rfl) ?_
  kernel_rfl
noncomputable def K210_5 (m : Nat) (call : CallF) (t0 t2 t5 t6 t20 : AV) : Kt :=
 ifB t20
 ((bnd (bldO (C m) 385 []) fun v0 =>
 bnd (stO (C m) 385 t2 v0) fun _ =>
 retV (C m) [(some 385, t2), (none, (S [])), (none, (I 10))]))
 ((bnd (binO (C m) .lss 3 t5 (I 20)) fun v1 =>
 bnd (gdO (wantV v1 false) (fun _ => .val t5)) fun v2 =>
 bnd (gdO (wantV v1 false) (fun _ => .val t0)) fun v3 =>
 bnd (gdO (wantV v1 false) (bltO (C m) .len [9] [v3])) fun v4 =>
 bnd (gdO (wantV v1 false) (binO (C m) .gtr 3 v2 v4)) fun v5 =>
 bnd (pickO v1 (B true) v5) fun v6 =>
 ifB v6
 ((bnd (bldO (C m) 385 []) fun v7 =>
 bnd (stO (C m) 385 t2 v7) fun _ =>
 retV (C m) [(some 385, t2), (none, (S [])), (none, (I 11))]))
 ((bnd (binO (C m) .lss 3 t6 t5) fun v8 =>
 bnd (gdO (wantV v8 false) (fun _ => .val t6)) fun v9 =>
 bnd (gdO (wantV v8 false) (fun _ => .val t0)) fun v10 =>
 bnd (gdO (wantV v8 false) (bltO (C m) .len [9] [v10])) fun v11 =>
 bnd (gdO (wantV v8 false) (binO (C m) .gtr 3 v9 v11)) fun v12 =>
 bnd (pickO v8 (B true) v12) fun v13 =>
 ifB v13
 ((bnd (bldO (C m) 385 []) fun v14 =>
 bnd (stO (C m) 385 t2 v14) fun _ =>
 retV (C m) [(some 385, t2), (none, (S [])), (none, (I 13))]))
 ((bnd (slcO (C m) 9 t0 none (some t5) none) fun v15 =>
 bnd (calO (C m) call (fnV 258) [v15]) fun v16 =>
 bnd (binO (C m) .neq 3 v16 (I 0)) fun v17 =>
 ifB v17
 ((bnd (bldO (C m) 385 []) fun v18 =>
 bnd (stO (C m) 385 t2 v18) fun _ =>
 retV (C m) [(some 385, t2), (none, (S [])), (none, (I 12))]))
 ((K210_4 m call t0 t2 t5 t6))))))))
theorem K210_5_eq (m : Nat) (call : CallF) : compF c210_5 (C m) call (fun e => K210_4 m call (e 0) (e 2) (e 5) (e 6)) (exitF 0 (fun e => K210_4 m call (e 0) (e 2) (e 5) (e 6)) nx) (Z210 m) = (fun e => K210_5 m call (e 0) (e 2) (e 5) (e 6) (e 20)) := by
  refine Eq.trans (b := (fun e => ifB (e 20) ((compF (pS1 (pC1 c210_5)) (C m) call (Z210 m) (exitF 0 (fun e => K210_4 m call (e 0) (e 2) (e 5) (e 6)) nx) (Z210 m)) e) ((compF (pS1 (pC2 c210_5)) (C m) call (fun e => ifB (e 26) ((compF (pS1 (pC1 (pS2 (pC2 c210_5)))) (C m) call (Z210 m) (exitF 0 (fun e => K210_4 m call (e 0) (e 2) (e 5) (e 6)) nx) (Z210 m)) e) ((compF (pS1 (pC2 (pS2 (pC2 c210_5)))) (C m) call (fun e => ifB (e 36) ((compF (pS1 (pC1 (pS2 (pC2 (pS2 (pC2 c210_5)))))) (C m) call (Z210 m) (exitF 0 (fun e => K210_4 m call (e 0) (e 2) (e 5) (e 6)) nx) (Z210 m)) e) ((compF (pS1 (pC2 (pS2 (pC2 (pS2 (pC2 c210_5)))))) (C m) call (fun e => ifB (e 47) ((compF (pS1 (pC1 (pS2 (pC2 (pS2 (pC2 (pS2 (pC2 c210_5)))))))) (C m) call (Z210 m) (exitF 0 (fun e => K210_4 m call (e 0) (e 2) (e 5) (e 6)) nx) (Z210 m)) e) ((fun e => K210_4 m call (e 0) (e 2) (e 5) (e 6)) e)) (exitF 0 (fun e => K210_4 m call (e 0) (e 2) (e 5) (e 6)) nx) (Z210 m)) e)) (exitF 0 (fun e => K210_4 m call (e 0) (e 2) (e 5) (e 6)) nx) (Z210 m)) e)) (exitF 0 (fun e => K210_4 m call (e 0) (e 2) (e 5) (e 6)) nx) (Z210 m)) e))) (by kernel_rfl) ?_
  kernel_rfl
noncomputable def K210_3 (m : Nat) (call : CallF) (t0 t2 t5 t6 : AV) : Kt :=
 bnd (idxO (C m) 9 t0 (I 0)) fun v0 =>
 bnd (binO (C m) .shr 5 v0 (Iu 4)) fun v1 =>
 bnd (binO (C m) .neq 5 v1 (.one (.int .u8 4))) fun v2 =>
 K210_5 m call t0 t2 t5 t6 v2
theorem K210_3_eq (m : Nat) (call : CallF) : compF c210_3 (C m) call (Z210 m) nx (Z210 m) = (fun e => K210_3 m call (e 0) (e 2) (e 5) (e 6)) := by
  refine Eq.trans (b := (compF (pS1 (pB (pS1 c210_3))) (C m) call (compF c210_5 (C m) call (compF c210_4 (C m) call (Z210 m) nx (Z210 m)) (exitF 0 (compF c210_4 (C m) call (Z210 m) nx (Z210 m)) nx) (Z210 m)) (exitF 0 (compF c210_4 (C m) call (Z210 m) nx (Z210 m)) nx) (Z210 m))) (by kernel_rfl) ?_
  rw [K210_4_eq m call , K210_5_eq m call ]
  first | done | (show _ = _; kernel_rfl)
noncomputable def K210_2 (m : Nat) (call : CallF) (t0 t2 : AV) : Kt :=
 atN 9 fun v0 =>
 dIn fun sv0 =>
 dEff (calO (C m) call (fnV 257) [t0, (I 2), (I 2)]) fun v1 sv1 =>
 dVal (idxO (C m) 9 t0 (I 0)) fun v2 =>
 dVal (binO (C m) .and 5 v2 (.one (.int .u8 15))) fun v3 =>
 dSam (some true) (cvO (C m) 5 3 v3) (fun v4 => (eqIn (cvO (C m) 5 3 v3) v4 sv1 && (eqIn (cvO (C m) 5 3 v3) v4 sv0 && true))) fun v5 =>
 dVal (binO (C m) .mul 3 (I 4) v5) fun v6 =>
 K210_3 m call t0 t2 v6 v1
theorem K210_2_eq (m : Nat) (call : CallF) : compF c210_2 (C m) call (Z210 m) nx (Z210 m) = (fun e => K210_2 m call (e 0) (e 2)) := by
  refine Eq.trans (b := (compF (pS1 c210_2) (C m) call (compF c210_3 (C m) call (Z210 m) nx (Z210 m)) nx (Z210 m))) (by kernel_rfl) ?_
  rw [K210_3_eq m call ]
  first | done | (show _ = _; kernel_rfl)
noncomputable def K210_1 (m : Nat) (call : CallF) (t0 t2 : AV) : Kt :=
 bnd (bltO (C m) .len [9] [t0]) fun v0 =>
 bnd (binO (C m) .lss 3 v0 (I 20)) fun v1 =>
 ifB v1
 ((bnd (bldO (C m) 385 []) fun v2 =>
 bnd (stO (C m) 385 t2 v2) fun _ =>
 retV (C m) [(some 385, t2), (none, (S [])), (none, (I 2))]))
 ((K210_2 m call t0 t2))
theorem K210_1_eq (m : Nat) (call : CallF) : compF c210_1 (C m) call (Z210 m) nx (Z210 m) = (fun e => K210_1 m call (e 0) (e 2)) := by
  refine Eq.trans (b := (compF (pS1 (pS1 c210_1)) (C m) call (fun e => ifB (e 11) ((compF (pS1 (pC1 (pS2 (pS1 c210_1)))) (C m) call (Z210 m) nx (Z210 m)) e) ((compF c210_2 (C m) call (Z210 m) nx (Z210 m)) e)) nx (Z210 m))) (by kernel_rfl) ?_
  rw [K210_2_eq m call ]
  first | done | (show _ = _; kernel_rfl)
noncomputable def K210_0 (m : Nat) (call : CallF) (t0 : AV) : Kt :=
 bnd (newO (C m) 385) fun v0 =>
 K210_1 m call t0 v0
theorem K210_0_eq (m : Nat) (call : CallF) : compF c210_0 (C m) call (Z210 m) nx (Z210 m) = (fun e => K210_0 m call (e 0)) := by
  refine Eq.trans (b := (compF (pS1 c210_0) (C m) call (compF c210_1 (C m) call (Z210 m) nx (Z210 m)) nx (Z210 m))) (by kernel_rfl) ?_
  rw [K210_1_eq m call ]
  first | done | (show _ = _; kernel_rfl)
theorem F210_eq (m : Nat) (call : CallF) (t0 : AV) : enterK (C m) call Tryz.f210 [t0] = K210_0 m call t0 := by
  refine Eq.trans (b := (compF c210_0 (C m) call (Z210 m) nx (Z210 m)) (argF [t0])) (by kernel_rfl) ?_
  rw [K210_0_eq m call]
  first | done | rfl
/-! rillmeter/ipsix.ext -/
noncomputable def c260_0 : Code := (bodyOf Tryz.f260)
noncomputable def c260_1 : Code := (pS2 c260_0)
noncomputable def c260_2 : Code := (pS2 c260_1)
noncomputable def c260_3 : Code := (pS2 c260_2)
noncomputable def Z260 (m : Nat) := fun (e : Nat → AV) => retV (C m) (resE e Tryz.f260.results.toList)
noncomputable def K260_3 (m : Nat) (call : CallF) (t0 t1 t4 : AV) : Kt :=
 bnd (idxO (C m) 9 t1 (I 1)) fun v0 =>
 bnd (cvO (C m) 5 3 v0) fun v1 =>
 bnd (binO (C m) .mul 3 (I 8) v1) fun v2 =>
 bnd (binO (C m) .add 3 (I 8) v2) fun v3 =>
 bnd (bltO (C m) .len [9] [t1]) fun v4 =>
 bnd (binO (C m) .gtr 3 v3 v4) fun v5 =>
 ifB v5
 ((bnd (bldO (C m) 433 []) fun v6 =>
 bnd (stO (C m) 433 t4 v6) fun _ =>
 retV (C m) [(some 433, t4), (none, (I 0)), (none, (S [])), (none, (B false))]))
 ((atN 15 fun v7 =>
 dIn fun sv7 =>
 dChk (slcO (C m) 9 t1 (some (I 2)) (some v3) none) fun v8 =>
 dVal (bldO (C m) 433 [(0, t0), (1, v8)]) fun v9 =>
 dEff (stO (C m) 433 t4 v9) fun v10 sv10 =>
 dVal (idxO (C m) 9 t1 (I 0)) fun v11 =>
 dSam (some true) (cvO (C m) 5 3 v11) (fun v12 => (eqIn (cvO (C m) 5 3 v11) v12 sv10 && (eqIn (cvO (C m) 5 3 v11) v12 sv7 && true))) fun v13 =>
 dSam (some true) (slcO (C m) 9 t1 (some v3) none none) (fun v14 => (eqIn (slcO (C m) 9 t1 (some v3) none none) v14 sv10 && (eqIn (slcO (C m) 9 t1 (some v3) none none) v14 sv7 && true))) fun v15 =>
 retV (C m) [(some 433, t4), (none, v13), (none, v15), (none, (B true))]))
theorem K260_3_eq (m : Nat) (call : CallF) : compF c260_3 (C m) call (Z260 m) nx (Z260 m) = (fun e => K260_3 m call (e 0) (e 1) (e 4)) := by
  refine Eq.trans (b := (compF (pS1 c260_3) (C m) call (compF (pS1 (pS1 (pS2 c260_3))) (C m) call (fun e => ifB (e 32) ((compF (pS1 (pC1 (pS2 (pS1 (pS2 c260_3))))) (C m) call (Z260 m) nx (Z260 m)) e) ((compF (pS1 (pS2 (pS2 c260_3))) (C m) call (Z260 m) nx (Z260 m)) e)) nx (Z260 m)) nx (Z260 m))) (by kernel_rfl) ?_
  kernel_rfl
noncomputable def K260_2 (m : Nat) (call : CallF) (t0 t1 t4 : AV) : Kt :=
 bnd (binO (C m) .eql 3 t0 (I 44)) fun v0 =>
 ifB v0
 ((atN 13 fun v1 =>
 dIn fun sv1 =>
 dChk (slcO (C m) 9 t1 (some (I 1)) (some (I 8)) none) fun v2 =>
 dVal (bldO (C m) 433 [(0, t0), (1, v2)]) fun v3 =>
 dEff (stO (C m) 433 t4 v3) fun v4 sv4 =>
 dVal (idxO (C m) 9 t1 (I 0)) fun v5 =>
 dSam (some true) (cvO (C m) 5 3 v5) (fun v6 => (eqIn (cvO (C m) 5 3 v5) v6 sv4 && (eqIn (cvO (C m) 5 3 v5) v6 sv1 && true))) fun v7 =>
 dSam (some true) (slcO (C m) 9 t1 (some (I 8)) none none) (fun v8 => (eqIn (slcO (C m) 9 t1 (some (I 8)) none none) v8 sv4 && (eqIn (slcO (C m) 9 t1 (some (I 8)) none none) v8 sv1 && true))) fun v9 =>
 retV (C m) [(some 433, t4), (none, v7), (none, v9), (none, (B true))]))
 ((K260_3 m call t0 t1 t4))
theorem K260_2_eq (m : Nat) (call : CallF) : compF c260_2 (C m) call (Z260 m) nx (Z260 m) = (fun e => K260_2 m call (e 0) (e 1) (e 4)) := by
  refine Eq.trans (b := (compF (pS1 (pS1 c260_2)) (C m) call (fun e => ifB (e 14) ((compF (pS1 (pC1 (pS2 (pS1 c260_2)))) (C m) call (Z260 m) nx (Z260 m)) e) ((compF c260_3 (C m) call (Z260 m) nx (Z260 m)) e)) nx (Z260 m))) (by kernel_rfl) ?_
  rw [K260_3_eq m call ]
  first | done | (show _ = _; kernel_rfl)
noncomputable def K260_1 (m : Nat) (call : CallF) (t0 t1 t4 : AV) : Kt :=
 bnd (bltO (C m) .len [9] [t1]) fun v0 =>
 bnd (binO (C m) .lss 3 v0 (I 8)) fun v1 =>
 ifB v1
 ((bnd (bldO (C m) 433 []) fun v2 =>
 bnd (stO (C m) 433 t4 v2) fun _ =>
 retV (C m) [(some 433, t4), (none, (I 0)), (none, (S [])), (none, (B false))]))
 ((K260_2 m call t0 t1 t4))
theorem K260_1_eq (m : Nat) (call : CallF) : compF c260_1 (C m) call (Z260 m) nx (Z260 m) = (fun e => K260_1 m call (e 0) (e 1) (e 4)) := by
  refine Eq.trans (b := (compF (pS1 (pS1 c260_1)) (C m) call (fun e => ifB (e 11) ((compF (pS1 (pC1 (pS2 (pS1 c260_1)))) (C m) call (Z260 m) nx (Z260 m)) e) ((compF c260_2 (C m) call (Z260 m) nx (Z260 m)) e)) nx (Z260 m))) (by kernel_rfl) ?_
  rw [K260_2_eq m call ]
  first | done | (show _ = _; kernel_rfl)
noncomputable def K260_0 (m : Nat) (call : CallF) (t0 t1 : AV) : Kt :=
 bnd (newO (C m) 433) fun v0 =>
 K260_1 m call t0 t1 v0
theorem K260_0_eq (m : Nat) (call : CallF) : compF c260_0 (C m) call (Z260 m) nx (Z260 m) = (fun e => K260_0 m call (e 0) (e 1)) := by
  refine Eq.trans (b := (compF (pS1 c260_0) (C m) call (compF c260_1 (C m) call (Z260 m) nx (Z260 m)) nx (Z260 m))) (by kernel_rfl) ?_
  rw [K260_1_eq m call ]
  first | done | (show _ = _; kernel_rfl)
theorem F260_eq (m : Nat) (call : CallF) (t0 t1 : AV) : enterK (C m) call Tryz.f260 [t0, t1] = K260_0 m call t0 t1 := by
  refine Eq.trans (b := (compF c260_0 (C m) call (Z260 m) nx (Z260 m)) (argF [t0, t1])) (by kernel_rfl) ?_
  rw [K260_0_eq m call]
  first | done | rfl
/-! rillmeter/ipsix.extension -/
noncomputable def c259_0 : Code := (bodyOf Tryz.f259)
noncomputable def Z259 (m : Nat) := fun (e : Nat → AV) => retV (C m) (resE e Tryz.f259.results.toList)
noncomputable def K259_0 (m : Nat) (call : CallF) (t0 : AV) : Kt :=
 bnd (binO (C m) .eql 3 t0 (I 0)) fun v0 =>
 bnd (gdO (wantV v0 false) (fun _ => .val t0)) fun v1 =>
 bnd (gdO (wantV v0 false) (binO (C m) .eql 3 v1 (I 43))) fun v2 =>
 bnd (pickO v0 (B true) v2) fun v3 =>
 bnd (gdO (wantV v3 false) (fun _ => .val t0)) fun v4 =>
 bnd (gdO (wantV v3 false) (binO (C m) .eql 3 v4 (I 44))) fun v5 =>
 bnd (pickO v3 (B true) v5) fun v6 =>
 bnd (gdO (wantV v6 false) (fun _ => .val t0)) fun v7 =>
 bnd (gdO (wantV v6 false) (binO (C m) .eql 3 v7 (I 60))) fun v8 =>
 bnd (pickO v6 (B true) v8) fun v9 =>
 retV (C m) [(none, v9)]
theorem K259_0_eq (m : Nat) (call : CallF) : compF c259_0 (C m) call (Z259 m) nx (Z259 m) = (fun e => K259_0 m call (e 0)) := by
  refine Eq.trans (b := (compF (pS1 c259_0) (C m) call (compF (pS1 (pS2 c259_0)) (C m) call (Z259 m) nx (Z259 m)) nx (Z259 m))) (by kernel_rfl) ?_
  kernel_rfl
theorem F259_eq (m : Nat) (call : CallF) (t0 : AV) : enterK (C m) call Tryz.f259 [t0] = K259_0 m call t0 := by
  refine Eq.trans (b := (compF c259_0 (C m) call (Z259 m) nx (Z259 m)) (argF [t0])) (by kernel_rfl) ?_
  rw [K259_0_eq m call]
  first | done | rfl
/-! slices.ContainsFunc[[]rillmeter/ipsix.Ext,rillmeter/ipsix.Ext] -/
noncomputable def c261_0 : Code := (bodyOf Tryz.f261)
noncomputable def Z261 (m : Nat) := fun (e : Nat → AV) => retV (C m) (resE e Tryz.f261.results.toList)
noncomputable def K261_0 (m : Nat) (call : CallF) (t0 t1 : AV) : Kt :=
 bnd (calO (C m) call (fnV 287) [t0, t1]) fun v0 =>
 bnd (binO (C m) .geq 3 v0 (I 0)) fun v1 =>
 retV (C m) [(none, v1)]
theorem K261_0_eq (m : Nat) (call : CallF) : compF c261_0 (C m) call (Z261 m) nx (Z261 m) = (fun e => K261_0 m call (e 0) (e 1)) := by
  refine Eq.trans (b := (compF (pS1 c261_0) (C m) call (compF (pS1 (pS2 c261_0)) (C m) call (Z261 m) nx (Z261 m)) nx (Z261 m))) (by kernel_rfl) ?_
  kernel_rfl
theorem F261_eq (m : Nat) (call : CallF) (t0 t1 : AV) : enterK (C m) call Tryz.f261 [t0, t1] = K261_0 m call t0 t1 := by
  refine Eq.trans (b := (compF c261_0 (C m) call (Z261 m) nx (Z261 m)) (argF [t0, t1])) (by kernel_rfl) ?_
  rw [K261_0_eq m call]
  first | done | rfl
/-! slices.IndexFunc[[]rillmeter/ipsix.Ext,rillmeter/ipsix.Ext] -/
noncomputable def c287_0 : Code := (bodyOf Tryz.f287)
noncomputable def c287_1 : Code := (pS2 c287_0)
noncomputable def c287_2 : Code := (pS2 c287_1)
noncomputable def c287_3 : Code := (pS2 (pS1 c287_1))
noncomputable def c287_4 : Code := (pL (pB c287_3))
noncomputable def c287_5 : Code := (pS2 c287_4)
noncomputable def c287_6 : Code := (pS2 c287_5)
noncomputable def c287_7 : Code := (pS2 c287_6)
noncomputable def Z287 (m : Nat) := fun (e : Nat → AV) => retV (C m) (resE e Tryz.f287.results.toList)
noncomputable def K287_2 (m : Nat) (call : CallF) : Kt :=
 retV (C m) [(none, (I (-1)))]
theorem K287_2_eq (m : Nat) (call : CallF) : compF c287_2 (C m) call (Z287 m) nx (Z287 m) = (fun e => K287_2 m call ) := by
  refine Eq.trans (b := (compF (pS1 c287_2) (C m) call (Z287 m) nx (Z287 m))) (by kernel_rfl) ?_
  kernel_rfl
noncomputable def K287_7 (m : Nat) (call : CallF) (h4 : AV → AV → AV → AV → Kt) (t0 t1 t7 t8 : AV) : Kt :=
 bnd (binO (C m) .add 3 t8 (I 1)) fun v0 =>
 h4 t0 t1 t7 v0
theorem K287_7_eq (m : Nat) (call : CallF) (h4 : AV → AV → AV → AV → Kt) : compF c287_7 (C m) call (fun e => h4 (e 0) (e 1) (e 7) (e 8)) (exitF 0 (fun e => K287_2 m call ) nx) (Z287 m) = (fun e => K287_7 m call h4 (e 0) (e 1) (e 7) (e 8)) := by
  kernel_rfl
noncomputable def K287_6 (m : Nat) (call : CallF) (h4 : AV → AV → AV → AV → Kt) (t0 t1 t7 t8 : AV) : Kt :=
 bnd (iadO (C m) 388 t0 t8) fun v0 =>
 bnd (ldO (C m) 433 v0) fun v1 =>
 bnd (calO (C m) call t1 [v1]) fun v2 =>
 ifB v2
 ((retV (C m) [(none, t8)]))
 ((K287_7 m call h4 t0 t1 t7 t8))
theorem K287_6_eq (m : Nat) (call : CallF) (h4 : AV → AV → AV → AV → Kt) : compF c287_6 (C m) call (fun e => h4 (e 0) (e 1) (e 7) (e 8)) (exitF 0 (fun e => K287_2 m call ) nx) (Z287 m) = (fun e => K287_6 m call h4 (e 0) (e 1) (e 7) (e 8)) := by
  refine Eq.trans (b := (compF (pS1 (pB (pS1 c287_6))) (C m) call (compF (pS1 (pS2 (pB (pS1 c287_6)))) (C m) call (fun e => ifB (e 16) ((compF (pS1 (pC1 (pS2 (pS2 (pB (pS1 c287_6)))))) (C m) call (Z287 m) (exitF 1 (compF c287_7 (C m) call (fun e => h4 (e 0) (e 1) (e 7) (e 8)) (exitF 0 (fun e => K287_2 m call ) nx) (Z287 m)) (exitF 0 (fun e => K287_2 m call ) nx)) (Z287 m)) e) ((compF c287_7 (C m) call (fun e => h4 (e 0) (e 1) (e 7) (e 8)) (exitF 0 (fun e => K287_2 m call ) nx) (Z287 m)) e)) (exitF 1 (compF c287_7 (C m) call (fun e => h4 (e 0) (e 1) (e 7) (e 8)) (exitF 0 (fun e => K287_2 m call ) nx) (Z287 m)) (exitF 0 (fun e => K287_2 m call ) nx)) (Z287 m)) (exitF 1 (compF c287_7 (C m) call (fun e => h4 (e 0) (e 1) (e 7) (e 8)) (exitF 0 (fun e => K287_2 m call ) nx) (Z287 m)) (exitF 0 (fun e => K287_2 m call ) nx)) (Z287 m))) (by kernel_rfl) ?_
  rw [K287_7_eq m call h4 ]
  first | done | (show _ = _; kernel_rfl)
noncomputable def K287_5 (m : Nat) (call : CallF) (h4 : AV → AV → AV → AV → Kt) (t0 t1 t7 t8 t9 : AV) : Kt :=
 ifB t9
 ((K287_6 m call h4 t0 t1 t7 t8))
 ((K287_2 m call ))
theorem K287_5_eq (m : Nat) (call : CallF) (h4 : AV → AV → AV → AV → Kt) : compF c287_5 (C m) call (fun e => h4 (e 0) (e 1) (e 7) (e 8)) (exitF 0 (fun e => K287_2 m call ) nx) (Z287 m) = (fun e => K287_5 m call h4 (e 0) (e 1) (e 7) (e 8) (e 9)) := by
  refine Eq.trans (b := (fun e => ifB (e 9) ((compF c287_6 (C m) call (fun e => h4 (e 0) (e 1) (e 7) (e 8)) (exitF 0 (fun e => K287_2 m call ) nx) (Z287 m)) e) ((fun e => K287_2 m call ) e))) (by kernel_rfl) ?_
  rw [K287_6_eq m call h4 ]
  first | done | (show _ = _; kernel_rfl)
noncomputable def L287_4_b (m : Nat) (call : CallF) (h4 : AV → AV → AV → AV → Kt) (t0 t1 t7 t8 : AV) : Kt :=
 bnd (binO (C m) .lss 3 t8 t7) fun v0 =>
 K287_5 m call h4 t0 t1 t7 t8 v0
noncomputable def L287_4 (m : Nat) (call : CallF) (n : Nat) : AV → AV → AV → AV → Kt :=
 Nat.rec (motive := fun _ => AV → AV → AV → AV → Kt) (fun t0 t1 t7 t8 => noK) (fun _ ih => L287_4_b m call ih) n
theorem L287_4_b_eq (m : Nat) (call : CallF) (h4 : AV → AV → AV → AV → Kt) : compF c287_4 (C m) call (fun e => h4 (e 0) (e 1) (e 7) (e 8)) (exitF 0 (fun e => K287_2 m call ) nx) (Z287 m) = fun e => L287_4_b m call h4 (e 0) (e 1) (e 7) (e 8) := by
  refine Eq.trans (b := (compF (pS1 c287_4) (C m) call (compF c287_5 (C m) call (fun e => h4 (e 0) (e 1) (e 7) (e 8)) (exitF 0 (fun e => K287_2 m call ) nx) (Z287 m)) (exitF 0 (fun e => K287_2 m call ) nx) (Z287 m))) (by kernel_rfl) ?_
  rw [K287_5_eq m call h4 ]
  first | done | (show _ = _; kernel_rfl)
theorem L287_4_eq (m : Nat) (call : CallF) (n : Nat) : (loopF (fun k => compF c287_4 (C m) call k (exitF 0 (fun e => K287_2 m call ) nx) (Z287 m)) n) = (fun e => L287_4 m call n (e 0) (e 1) (e 7) (e 8)) := by
  induction n with
  | zero => rfl
  | succ n ih =>
    show compF c287_4 (C m) call (loopF (fun k => compF c287_4 (C m) call k (exitF 0 (fun e => K287_2 m call ) nx) (Z287 m)) n) (exitF 0 (fun e => K287_2 m call ) nx) (Z287 m) = _
    rw [ih, L287_4_b_eq m call (L287_4 m call n)]
    rfl
theorem L287_4_succ (m : Nat) (call : CallF) (n : Nat) : L287_4 m call (n + 1) = L287_4_b m call (L287_4 m call n) := rfl
noncomputable def K287_3 (m : Nat) (call : CallF) (t0 t1 t7 t8 : AV) : Kt :=
 L287_4 m call m t0 t1 t7 t8
theorem K287_3_eq (m : Nat) (call : CallF) : compF c287_3 (C m) call (fun e => K287_2 m call ) nx (Z287 m) = (fun e => K287_3 m call (e 0) (e 1) (e 7) (e 8)) := by
  refine Eq.trans (b := (loopF (fun k => compF c287_4 (C m) call k (exitF 0 (fun e => K287_2 m call ) nx) (Z287 m)) m)) (by kernel_rfl) ?_
  rw [L287_4_eq m call m]
  first | done | (show _ = _; kernel_rfl)
noncomputable def K287_1 (m : Nat) (call : CallF) (t0 t1 : AV) : Kt :=
 bnd (bltO (C m) .len [388] [t0]) fun v0 =>
 K287_3 m call t0 t1 v0 (I 0)
theorem K287_1_eq (m : Nat) (call : CallF) : compF c287_1 (C m) call (Z287 m) nx (Z287 m) = (fun e => K287_1 m call (e 0) (e 1)) := by
  refine Eq.trans (b := (compF (pS1 (pS1 c287_1)) (C m) call (compF c287_3 (C m) call (compF c287_2 (C m) call (Z287 m) nx (Z287 m)) nx (Z287 m)) nx (Z287 m))) (by kernel_rfl) ?_
  rw [K287_2_eq m call , K287_3_eq m call ]
  first | done | (show _ = _; kernel_rfl)
noncomputable def K287_0 (m : Nat) (call : CallF) (t0 t1 : AV) : Kt :=
 K287_1 m call t0 t1
theorem K287_0_eq (m : Nat) (call : CallF) : compF c287_0 (C m) call (Z287 m) nx (Z287 m) = (fun e => K287_0 m call (e 0) (e 1)) := by
  refine Eq.trans (b := (compF (pS1 c287_0) (C m) call (compF c287_1 (C m) call (Z287 m) nx (Z287 m)) nx (Z287 m))) (by kernel_rfl) ?_
  rw [K287_1_eq m call ]
  first | done | (show _ = _; kernel_rfl)
theorem F287_eq (m : Nat) (call : CallF) (t0 t1 : AV) : enterK (C m) call Tryz.f287 [t0, t1] = K287_0 m call t0 t1 := by
  refine Eq.trans (b := (compF c287_0 (C m) call (Z287 m) nx (Z287 m)) (argF [t0, t1])) (by kernel_rfl) ?_
  rw [K287_0_eq m call]
  first | done | rfl
/-! rillmeter/ipsix.Piece$1 -/
noncomputable def c262_0 : Code := (bodyOf Tryz.f262)
noncomputable def Z262 (m : Nat) := fun (e : Nat → AV) => retV (C m) (resE e Tryz.f262.results.toList)
noncomputable def K262_0 (m : Nat) (call : CallF) (t0 : AV) : Kt :=
 bnd (boxO 433 t0) fun v0 =>
 atN 23 fun v1 =>
 dIn fun sv1 =>
 dVal (fadO (C m) 433 v0 0) fun v2 =>
 dChk (ldO (C m) 3 v2) fun v3 =>
 dVal (binO (C m) .eql 3 v3 (I 44)) fun v4 =>
 dVal (gdO (wantV v4 true) (fadO (C m) 433 v0 1)) fun v5 =>
 dChk (gdO (wantV v4 true) (ldO (C m) 9 v5)) fun v6 =>
 dChk (gdO (wantV v4 true) (bltO (C m) .len [9] [v6])) fun v7 =>
 dVal (gdO (wantV v4 true) (binO (C m) .gtr 3 v7 (I 2))) fun v8 =>
 dVal (pickO v4 v8 (B false)) fun v9 =>
 dVal (gdO (wantV v9 true) (fadO (C m) 433 v0 1)) fun v10 =>
 dChk (gdO (wantV v9 true) (ldO (C m) 9 v10)) fun v11 =>
 dVal (gdO (wantV v9 true) (idxO (C m) 9 v11 (I 1))) fun v12 =>
 dChk (gdO (wantV v9 true) (cvO (C m) 5 3 v12)) fun v13 =>
 dVal (gdO (wantV v9 true) (binO (C m) .shl 3 v13 (Iu 8))) fun v14 =>
 dVal (gdO (wantV v9 true) (fadO (C m) 433 v0 1)) fun v15 =>
 dChk (gdO (wantV v9 true) (ldO (C m) 9 v15)) fun v16 =>
 dVal (gdO (wantV v9 true) (idxO (C m) 9 v16 (I 2))) fun v17 =>
 dChk (gdO (wantV v9 true) (cvO (C m) 5 3 v17)) fun v18 =>
 dVal (gdO (wantV v9 true) (binO (C m) .add 3 v14 v18)) fun v19 =>
 dVal (gdO (wantV v9 true) (binO (C m) .geq 3 v19 (I 8))) fun v20 =>
 dVal (pickO v9 v20 (B false)) fun v21 =>
 retV (C m) [(none, v21)]
theorem K262_0_eq (m : Nat) (call : CallF) : compF c262_0 (C m) call (Z262 m) nx (Z262 m) = (fun e => K262_0 m call (e 0)) := by
  refine Eq.trans (b := (compF (pS1 c262_0) (C m) call (compF (pS1 (pS2 c262_0)) (C m) call (Z262 m) nx (Z262 m)) nx (Z262 m))) (by kernel_rfl) ?_
  kernel_rfl
theorem F262_eq (m : Nat) (call : CallF) (t0 : AV) : enterK (C m) call Tryz.f262 [t0] = K262_0 m call t0 := by
  refine Eq.trans (b := (compF c262_0 (C m) call (Z262 m) nx (Z262 m)) (argF [t0])) (by kernel_rfl) ?_
  rw [K262_0_eq m call]
  first | done | rfl
/-! rillmeter/ipsix.Piece -/
noncomputable def c212_0 : Code := (bodyOf Tryz.f212)
noncomputable def Z212 (m : Nat) := fun (e : Nat → AV) => retV (C m) (resE e Tryz.f212.results.toList)
noncomputable def K212_0 (m : Nat) (call : CallF) (t0 : AV) : Kt :=
 bnd (boxO 390 t0) fun v0 =>
 bnd (fadO (C m) 390 v0 6) fun v1 =>
 bnd (ldO (C m) 388 v1) fun v2 =>
 bnd (calO (C m) call (fnV 261) [v2, (fnV 262)]) fun v3 =>
 retV (C m) [(none, v3)]
theorem K212_0_eq (m : Nat) (call : CallF) : compF c212_0 (C m) call (Z212 m) nx (Z212 m) = (fun e => K212_0 m call (e 0)) := by
  refine Eq.trans (b := (compF (pS1 c212_0) (C m) call (compF (pS1 (pS2 c212_0)) (C m) call (Z212 m) nx (Z212 m)) nx (Z212 m))) (by kernel_rfl) ?_
  kernel_rfl
theorem F212_eq (m : Nat) (call : CallF) (t0 : AV) : enterK (C m) call Tryz.f212 [t0] = K212_0 m call t0 := by
  refine Eq.trans (b := (compF c212_0 (C m) call (Z212 m) nx (Z212 m)) (argF [t0])) (by kernel_rfl) ?_
  rw [K212_0_eq m call]
  first | done | rfl
/-! rillmeter/ipsix.Take -/
noncomputable def c211_0 : Code := (bodyOf Tryz.f211)
noncomputable def c211_1 : Code := (pS2 c211_0)
noncomputable def c211_2 : Code := (pS2 c211_1)
noncomputable def c211_3 : Code := (pS2 c211_2)
noncomputable def c211_4 : Code := (pS2 c211_3)
noncomputable def c211_5 : Code := (pS2 c211_4)
noncomputable def c211_6 : Code := (pS2 c211_5)
noncomputable def c211_7 : Code := (pS2 c211_6)
noncomputable def c211_8 : Code := (pS2 c211_7)
noncomputable def c211_9 : Code := (pL (pB (pS1 c211_7)))
noncomputable def c211_10 : Code := (pS2 c211_9)
noncomputable def Z211 (m : Nat) := fun (e : Nat → AV) => retV (C m) (resE e Tryz.f211.results.toList)
noncomputable def K211_8 (m : Nat) (call : CallF) (t2 t11 t12 : AV) : Kt :=
 bnd (ldO (C m) 390 t11) fun v0 =>
 bnd (stO (C m) 390 t2 v0) fun _ =>
 retV (C m) [(some 390, t2), (none, t12), (none, (I 0))]
theorem K211_8_eq (m : Nat) (call : CallF) : compF c211_8 (C m) call (Z211 m) nx (Z211 m) = (fun e => K211_8 m call (e 2) (e 11) (e 12)) := by
  refine Eq.trans (b := (compF (pS1 c211_8) (C m) call (Z211 m) nx (Z211 m))) (by kernel_rfl) ?_
  kernel_rfl
noncomputable def K211_10 (m : Nat) (call : CallF) (h9 : AV → AV → AV → Kt) (t2 t11 t12 : AV) : Kt :=
 bnd (fadO (C m) 390 t11 3) fun v0 =>
 bnd (ldO (C m) 3 v0) fun v1 =>
 bnd (calO (C m) call (fnV 260) [v1, t12]) fun v2 =>
 bnd (extO v2 0) fun v3 =>
 bnd (extO v2 1) fun v4 =>
 bnd (extO v2 2) fun v5 =>
 bnd (extO v2 3) fun v6 =>
 bnd (newO (C m) 433) fun v7 =>
 bnd (stO (C m) 433 v7 v3) fun _ =>
 bnd (unO .not v6) fun v8 =>
 bnd (gdO (wantV v8 false) (fadO (C m) 390 t11 6)) fun v9 =>
 bnd (gdO (wantV v8 false) (ldO (C m) 388 v9)) fun v10 =>
 bnd (gdO (wantV v8 false) (bltO (C m) .len [388] [v10])) fun v11 =>
 bnd (gdO (wantV v8 false) (binO (C m) .eql 3 v11 (I 8))) fun v12 =>
 bnd (pickO v8 (B true) v12) fun v13 =>
 bnd (gdO (wantV v13 false) (fadO (C m) 433 v7 0)) fun v14 =>
 bnd (gdO (wantV v13 false) (ldO (C m) 3 v14)) fun v15 =>
 bnd (gdO (wantV v13 false) (binO (C m) .eql 3 v15 (I 0))) fun v16 =>
 bnd (gdO (wantV v13 false) (fun _ => .val v16)) fun v17 =>
 bnd (gdO (wantV v17 true) (fadO (C m) 390 t11 6)) fun v18 =>
 bnd (gdO (wantV v17 true) (ldO (C m) 388 v18)) fun v19 =>
 bnd (gdO (wantV v17 true) (bltO (C m) .len [388] [v19])) fun v20 =>
 bnd (gdO (wantV v17 true) (binO (C m) .gtr 3 v20 (I 0))) fun v21 =>
 bnd (gdO (wantV v13 false) (pickO v17 v21 (B false))) fun v22 =>
 bnd (pickO v13 (B true) v22) fun v23 =>
 ifB v23
 ((bnd (bldO (C m) 390 []) fun v24 =>
 bnd (stO (C m) 390 t2 v24) fun _ =>
 retV (C m) [(some 390, t2), (none, (S [])), (none, (I 15))]))
 ((bnd (fadO (C m) 390 t11 6) fun v25 =>
 bnd (ldO (C m) 388 v25) fun v26 =>
 bnd (ldO (C m) 433 v7) fun v27 =>
 bnd (bslO (C m) 388 1 [(0, v27)]) fun v28 =>
 bnd (bltO (C m) .append [388, 388] [v26, v28]) fun v29 =>
 bnd (fadO (C m) 390 t11 6) fun v30 =>
 bnd (stO (C m) 388 v30 v29) fun _ =>
 bnd (fadO (C m) 390 t11 3) fun v31 =>
 bnd (stO (C m) 3 v31 v4) fun _ =>
 h9 t2 t11 v5))
theorem K211_10_eq (m : Nat) (call : CallF) (h9 : AV → AV → AV → Kt) : compF c211_10 (C m) call (fun e => h9 (e 2) (e 11) (e 12)) (exitF 1 (fun e => K211_8 m call (e 2) (e 11) (e 12)) nx) (Z211 m) = (fun e => K211_10 m call h9 (e 2) (e 11) (e 12)) := by
  refine Eq.trans (b := (compF (pS1 (pB c211_10)) (C m) call (compF (pS1 (pS1 (pS2 (pB c211_10)))) (C m) call (fun e => ifB (e 96) ((compF (pS1 (pC1 (pS2 (pS1 (pS2 (pB c211_10)))))) (C m) call (Z211 m) (exitF 2 (fun e => h9 (e 2) (e 11) (e 12)) (exitF 1 (fun e => K211_8 m call (e 2) (e 11) (e 12)) nx)) (Z211 m)) e) ((compF (pS1 (pS2 (pS2 (pB c211_10)))) (C m) call (compF (pS2 (pS2 (pS2 (pB c211_10)))) (C m) call (fun e => h9 (e 2) (e 11) (e 12)) (exitF 2 (fun e => h9 (e 2) (e 11) (e 12)) (exitF 1 (fun e => K211_8 m call (e 2) (e 11) (e 12)) nx)) (Z211 m)) (exitF 2 (fun e => h9 (e 2) (e 11) (e 12)) (exitF 1 (fun e => K211_8 m call (e 2) (e 11) (e 12)) nx)) (Z211 m)) e)) (exitF 2 (fun e => h9 (e 2) (e 11) (e 12)) (exitF 1 (fun e => K211_8 m call (e 2) (e 11) (e 12)) nx)) (Z211 m)) (exitF 2 (fun e => h9 (e 2) (e 11) (e 12)) (exitF 1 (fun e => K211_8 m call (e 2) (e 11) (e 12)) nx)) (Z211 m))) (by kernel_rfl) ?_
  kernel_rfl
noncomputable def L211_9_b (m : Nat) (call : CallF) (h9 : AV → AV → AV → Kt) (t2 t11 t12 : AV) : Kt :=
 bnd (fadO (C m) 390 t11 3) fun v0 =>
 bnd (ldO (C m) 3 v0) fun v1 =>
 bnd (calO (C m) call (fnV 259) [v1]) fun v2 =>
 ifB v2
 ((K211_10 m call h9 t2 t11 t12))
 ((K211_8 m call t2 t11 t12))
noncomputable def L211_9 (m : Nat) (call : CallF) (n : Nat) : AV → AV → AV → Kt :=
 Nat.rec (motive := fun _ => AV → AV → AV → Kt) (fun t2 t11 t12 => noK) (fun _ ih => L211_9_b m call ih) n
theorem L211_9_b_eq (m : Nat) (call : CallF) (h9 : AV → AV → AV → Kt) : compF c211_9 (C m) call (fun e => h9 (e 2) (e 11) (e 12)) (exitF 1 (fun e => K211_8 m call (e 2) (e 11) (e 12)) nx) (Z211 m) = fun e => L211_9_b m call h9 (e 2) (e 11) (e 12) := by
  refine Eq.trans (b := (compF (pS1 (pS1 c211_9)) (C m) call (fun e => ifB (e 68) ((compF c211_10 (C m) call (fun e => h9 (e 2) (e 11) (e 12)) (exitF 1 (fun e => K211_8 m call (e 2) (e 11) (e 12)) nx) (Z211 m)) e) ((fun e => K211_8 m call (e 2) (e 11) (e 12)) e)) (exitF 1 (fun e => K211_8 m call (e 2) (e 11) (e 12)) nx) (Z211 m))) (by kernel_rfl) ?_
  rw [K211_10_eq m call h9 ]
  first | done | (show _ = _; kernel_rfl)
theorem L211_9_eq (m : Nat) (call : CallF) (n : Nat) : (loopF (fun k => compF c211_9 (C m) call k (exitF 1 (fun e => K211_8 m call (e 2) (e 11) (e 12)) nx) (Z211 m)) n) = (fun e => L211_9 m call n (e 2) (e 11) (e 12)) := by
  induction n with
  | zero => rfl
  | succ n ih =>
    show compF c211_9 (C m) call (loopF (fun k => compF c211_9 (C m) call k (exitF 1 (fun e => K211_8 m call (e 2) (e 11) (e 12)) nx) (Z211 m)) n) (exitF 1 (fun e => K211_8 m call (e 2) (e 11) (e 12)) nx) (Z211 m) = _
    rw [ih, L211_9_b_eq m call (L211_9 m call n)]
    rfl
theorem L211_9_succ (m : Nat) (call : CallF) (n : Nat) : L211_9 m call (n + 1) = L211_9_b m call (L211_9 m call n) := rfl
noncomputable def K211_7 (m : Nat) (call : CallF) (t2 t11 t12 : AV) : Kt :=
 L211_9 m call m t2 t11 t12
theorem K211_7_eq (m : Nat) (call : CallF) : compF c211_7 (C m) call (Z211 m) nx (Z211 m) = (fun e => K211_7 m call (e 2) (e 11) (e 12)) := by
  refine Eq.trans (b := (loopF (fun k => compF c211_9 (C m) call k (exitF 1 (compF c211_8 (C m) call (Z211 m) nx (Z211 m)) nx) (Z211 m)) m)) (by kernel_rfl) ?_
  rw [K211_8_eq m call , L211_9_eq m call m]
  first | done | (show _ = _; kernel_rfl)
noncomputable def K211_6 (m : Nat) (call : CallF) (t0 t2 t8 t11 : AV) : Kt :=
 bnd (binO (C m) .add 3 (I 40) t8) fun v0 =>
 bnd (slcO (C m) 9 t0 (some (I 40)) (some v0) none) fun v1 =>
 K211_7 m call t2 t11 v1
theorem K211_6_eq (m : Nat) (call : CallF) : compF c211_6 (C m) call (Z211 m) nx (Z211 m) = (fun e => K211_6 m call (e 0) (e 2) (e 8) (e 11)) := by
  refine Eq.trans (b := (compF (pS1 c211_6) (C m) call (compF c211_7 (C m) call (Z211 m) nx (Z211 m)) nx (Z211 m))) (by kernel_rfl) ?_
  rw [K211_7_eq m call ]
  first | done | (show _ = _; kernel_rfl)
noncomputable def K211_5 (m : Nat) (call : CallF) (t0 t2 t5 t8 t11 : AV) : Kt :=
 bnd (binO (C m) .shr 3 t5 (Iu 28)) fun v0 =>
 bnd (binO (C m) .neq 3 v0 (I 6)) fun v1 =>
 ifB v1
 ((bnd (bldO (C m) 390 []) fun v2 =>
 bnd (stO (C m) 390 t2 v2) fun _ =>
 retV (C m) [(some 390, t2), (none, (S [])), (none, (I 10))]))
 ((bnd (bltO (C m) .len [9] [t0]) fun v3 =>
 bnd (binO (C m) .sub 3 v3 (I 40)) fun v4 =>
 bnd (binO (C m) .gtr 3 t8 v4) fun v5 =>
 ifB v5
 ((bnd (bldO (C m) 390 []) fun v6 =>
 bnd (stO (C m) 390 t2 v6) fun _ =>
 retV (C m) [(some 390, t2), (none, (S [])), (none, (I 13))]))
 ((K211_6 m call t0 t2 t8 t11))))
theorem K211_5_eq (m : Nat) (call : CallF) : compF c211_5 (C m) call (Z211 m) nx (Z211 m) = (fun e => K211_5 m call (e 0) (e 2) (e 5) (e 8) (e 11)) := by
  refine Eq.trans (b := (compF (pS1 (pB (pS1 c211_5))) (C m) call (fun e => ifB (e 50) ((compF (pS1 (pC1 (pS2 (pB (pS1 c211_5))))) (C m) call (Z211 m) (exitF 0 (compF c211_6 (C m) call (Z211 m) nx (Z211 m)) nx) (Z211 m)) e) ((compF (pS1 (pC2 (pS2 (pB (pS1 c211_5))))) (C m) call (fun e => ifB (e 55) ((compF (pS1 (pC1 (pS2 (pC2 (pS2 (pB (pS1 c211_5))))))) (C m) call (Z211 m) (exitF 0 (compF c211_6 (C m) call (Z211 m) nx (Z211 m)) nx) (Z211 m)) e) ((compF c211_6 (C m) call (Z211 m) nx (Z211 m)) e)) (exitF 0 (compF c211_6 (C m) call (Z211 m) nx (Z211 m)) nx) (Z211 m)) e)) (exitF 0 (compF c211_6 (C m) call (Z211 m) nx (Z211 m)) nx) (Z211 m))) (by kernel_rfl) ?_
  rw [K211_6_eq m call ]
  first | done | (show _ = _; kernel_rfl)
noncomputable def K211_4 (m : Nat) (call : CallF) (t0 t2 t5 t8 : AV) : Kt :=
 atN 18 fun v0 =>
 dIn fun sv0 =>
 dVal (binO (C m) .shr 3 t5 (Iu 20)) fun v1 =>
 dVal (binO (C m) .and 3 v1 (I 255)) fun v2 =>
 dVal (binO (C m) .and 3 t5 (I 1048575)) fun v3 =>
 dVal (idxO (C m) 9 t0 (I 7)) fun v4 =>
 dChk (cvO (C m) 5 3 v4) fun v5 =>
 dVal (idxO (C m) 9 t0 (I 6)) fun v6 =>
 dChk (cvO (C m) 5 3 v6) fun v7 =>
 dChk (slcO (C m) 9 t0 (some (I 8)) (some (I 24)) none) fun v8 =>
 dChk (slcO (C m) 9 t0 (some (I 24)) (some (I 40)) none) fun v9 =>
 dVal (bldO (C m) 390 [(0, v2), (1, v3), (2, v5), (3, v7), (4, v8), (5, v9)]) fun v10 =>
 dNew (newO (C m) 390) (Nat.add v0 16) fun v11 =>
 dEff (stO (C m) 390 v11 v10) fun v12 sv12 =>
 K211_5 m call t0 t2 t5 t8 v11
theorem K211_4_eq (m : Nat) (call : CallF) : compF c211_4 (C m) call (Z211 m) nx (Z211 m) = (fun e => K211_4 m call (e 0) (e 2) (e 5) (e 8)) := by
  refine Eq.trans (b := (compF (pS1 c211_4) (C m) call (compF c211_5 (C m) call (Z211 m) nx (Z211 m)) nx (Z211 m))) (by kernel_rfl) ?_
  rw [K211_5_eq m call ]
  first | done | (show _ = _; kernel_rfl)
noncomputable def K211_3 (m : Nat) (call : CallF) (t0 t2 t5 : AV) : Kt :=
 bnd (slcO (C m) 9 t0 (some (I 4)) none none) fun v0 =>
 bnd (calO (C m) call (fnV 181) [v0, (I 2)]) fun v1 =>
 bnd (extO v1 0) fun v2 =>
 bnd (extO v1 1) fun v3 =>
 bnd (extO v1 2) fun v4 =>
 K211_4 m call t0 t2 t5 v2
theorem K211_3_eq (m : Nat) (call : CallF) : compF c211_3 (C m) call (Z211 m) nx (Z211 m) = (fun e => K211_3 m call (e 0) (e 2) (e 5)) := by
  refine Eq.trans (b := (compF (pS1 c211_3) (C m) call (compF c211_4 (C m) call (Z211 m) nx (Z211 m)) nx (Z211 m))) (by kernel_rfl) ?_
  rw [K211_4_eq m call ]
  first | done | (show _ = _; kernel_rfl)
noncomputable def K211_2 (m : Nat) (call : CallF) (t0 t2 : AV) : Kt :=
 bnd (calO (C m) call (fnV 181) [t0, (I 4)]) fun v0 =>
 bnd (extO v0 0) fun v1 =>
 bnd (extO v0 1) fun v2 =>
 bnd (extO v0 2) fun v3 =>
 K211_3 m call t0 t2 v1
theorem K211_2_eq (m : Nat) (call : CallF) : compF c211_2 (C m) call (Z211 m) nx (Z211 m) = (fun e => K211_2 m call (e 0) (e 2)) := by
  refine Eq.trans (b := (compF (pS1 c211_2) (C m) call (compF c211_3 (C m) call (Z211 m) nx (Z211 m)) nx (Z211 m))) (by kernel_rfl) ?_
  rw [K211_3_eq m call ]
  first | done | (show _ = _; kernel_rfl)
noncomputable def K211_1 (m : Nat) (call : CallF) (t0 t2 : AV) : Kt :=
 bnd (bltO (C m) .len [9] [t0]) fun v0 =>
 bnd (binO (C m) .lss 3 v0 (I 40)) fun v1 =>
 ifB v1
 ((bnd (bldO (C m) 390 []) fun v2 =>
 bnd (stO (C m) 390 t2 v2) fun _ =>
 retV (C m) [(some 390, t2), (none, (S [])), (none, (I 2))]))
 ((K211_2 m call t0 t2))
theorem K211_1_eq (m : Nat) (call : CallF) : compF c211_1 (C m) call (Z211 m) nx (Z211 m) = (fun e => K211_1 m call (e 0) (e 2)) := by
  refine Eq.trans (b := (compF (pS1 (pS1 c211_1)) (C m) call (fun e => ifB (e 19) ((compF (pS1 (pC1 (pS2 (pS1 c211_1)))) (C m) call (Z211 m) nx (Z211 m)) e) ((compF c211_2 (C m) call (Z211 m) nx (Z211 m)) e)) nx (Z211 m))) (by kernel_rfl) ?_
  rw [K211_2_eq m call ]
  first | done | (show _ = _; kernel_rfl)
noncomputable def K211_0 (m : Nat) (call : CallF) (t0 : AV) : Kt :=
 bnd (newO (C m) 390) fun v0 =>
 K211_1 m call t0 v0
theorem K211_0_eq (m : Nat) (call : CallF) : compF c211_0 (C m) call (Z211 m) nx (Z211 m) = (fun e => K211_0 m call (e 0)) := by
  refine Eq.trans (b := (compF (pS1 c211_0) (C m) call (compF c211_1 (C m) call (Z211 m) nx (Z211 m)) nx (Z211 m))) (by kernel_rfl) ?_
  rw [K211_1_eq m call ]
  first | done | (show _ = _; kernel_rfl)
theorem F211_eq (m : Nat) (call : CallF) (t0 : AV) : enterK (C m) call Tryz.f211 [t0] = K211_0 m call t0 := by
  refine Eq.trans (b := (compF c211_0 (C m) call (Z211 m) nx (Z211 m)) (argF [t0])) (by kernel_rfl) ?_
  rw [K211_0_eq m call]
  first | done | rfl
/-! rillmeter/flow.network -/
noncomputable def c151_0 : Code := (bodyOf Tryz.f151)
noncomputable def c151_1 : Code := (pS2 c151_0)
noncomputable def c151_2 : Code := (pS2 c151_1)
noncomputable def c151_3 : Code := (pS2 (pS1 c151_1))
noncomputable def c151_4 : Code := (pS2 (pB c151_3))
noncomputable def c151_5 : Code := (pS2 (pC1 c151_4))
noncomputable def c151_6 : Code := (pS2 c151_5)
noncomputable def c151_7 : Code := (pS2 (pC2 c151_4))
noncomputable def c151_8 : Code := (pS2 (pC1 c151_7))
noncomputable def c151_9 : Code := (pS2 c151_8)
noncomputable def Z151 (m : Nat) := fun (e : Nat → AV) => retV (C m) (resE e Tryz.f151.results.toList)
noncomputable def K151_2 (m : Nat) (call : CallF) (t4 : AV) : Kt :=
 bnd (bldO (C m) 276 []) fun v0 =>
 bnd (stO (C m) 276 t4 v0) fun _ =>
 retV (C m) [(some 276, t4), (none, (S [])), (none, (I 8))]
theorem K151_2_eq (m : Nat) (call : CallF) : compF c151_2 (C m) call (Z151 m) nx (Z151 m) = (fun e => K151_2 m call (e 4)) := by
  refine Eq.trans (b := (compF (pS1 c151_2) (C m) call (Z151 m) nx (Z151 m))) (by kernel_rfl) ?_
  kernel_rfl
noncomputable def K151_6 (m : Nat) (call : CallF) (t4 t7 t8 t9 : AV) : Kt :=
 bnd (fadO (C m) 385 t7 6) fun v0 =>
 bnd (ldO (C m) 9 v0) fun v1 =>
 bnd (binO (C m) .add 9 (S [0, 0, 0, 0, 0, 0, 0, 0, 0, 0, 255, 255]) v1) fun v2 =>
 bnd (fadO (C m) 385 t7 7) fun v3 =>
 bnd (ldO (C m) 9 v3) fun v4 =>
 bnd (binO (C m) .add 9 (S [0, 0, 0, 0, 0, 0, 0, 0, 0, 0, 255, 255]) v4) fun v5 =>
 bnd (fadO (C m) 385 t7 5) fun v6 =>
 bnd (ldO (C m) 3 v6) fun v7 =>
 bnd (bldO (C m) 276 [(0, v2), (1, v5), (2, v7)]) fun v8 =>
 bnd (stO (C m) 276 t4 v8) fun _ =>
 retV (C m) [(some 276, t4), (none, t8), (none, t9)]
theorem K151_6_eq (m : Nat) (call : CallF) : compF c151_6 (C m) call (fun e => K151_2 m call (e 4)) (exitF 0 (fun e => K151_2 m call (e 4)) nx) (Z151 m) = (fun e => K151_6 m call (e 4) (e 7) (e 8) (e 9)) := by
  refine Eq.trans (b := (compF (pS1 c151_6) (C m) call (Z151 m) (exitF 0 (fun e => K151_2 m call (e 4)) nx) (Z151 m))) (by kernel_rfl) ?_
  kernel_rfl
noncomputable def K151_5 (m : Nat) (call : CallF) (t4 t7 t8 t9 : AV) : Kt :=
 bnd (binO (C m) .eql 42 t9 (I 0)) fun v0 =>
 bnd (gdO (wantV v0 true) (fadO (C m) 385 t7 3)) fun v1 =>
 bnd (gdO (wantV v0 true) (ldO (C m) 3 v1)) fun v2 =>
 bnd (gdO (wantV v0 true) (binO (C m) .neq 3 v2 (I 0))) fun v3 =>
 bnd (pickO v0 v3 (B false)) fun v4 =>
 ifB v4
 ((K151_6 m call t4 t7 t8 (I 14)))
 ((K151_6 m call t4 t7 t8 t9))
theorem K151_5_eq (m : Nat) (call : CallF) : compF c151_5 (C m) call (fun e => K151_2 m call (e 4)) (exitF 0 (fun e => K151_2 m call (e 4)) nx) (Z151 m) = (fun e => K151_5 m call (e 4) (e 7) (e 8) (e 9)) := by
  refine Eq.trans (b := (compF (pS1 (pS1 c151_5)) (C m) call (fun e => ifB (e 28) ((compF (pC1 (pS2 (pS1 c151_5))) (C m) call (compF c151_6 (C m) call (fun e => K151_2 m call (e 4)) (exitF 0 (fun e => K151_2 m call (e 4)) nx) (Z151 m)) (exitF 0 (fun e => K151_2 m call (e 4)) nx) (Z151 m)) e) ((compF c151_6 (C m) call (fun e => K151_2 m call (e 4)) (exitF 0 (fun e => K151_2 m call (e 4)) nx) (Z151 m)) e)) (exitF 0 (fun e => K151_2 m call (e 4)) nx) (Z151 m))) (by kernel_rfl) ?_
  rw [K151_6_eq m call ]
  first | done | (show _ = _; kernel_rfl)
noncomputable def K151_9 (m : Nat) (call : CallF) (t4 t10 t11 t12 : AV) : Kt :=
 bnd (fadO (C m) 390 t10 4) fun v0 =>
 bnd (ldO (C m) 9 v0) fun v1 =>
 bnd (fadO (C m) 390 t10 5) fun v2 =>
 bnd (ldO (C m) 9 v2) fun v3 =>
 bnd (fadO (C m) 390 t10 3) fun v4 =>
 bnd (ldO (C m) 3 v4) fun v5 =>
 bnd (bldO (C m) 276 [(0, v1), (1, v3), (2, v5)]) fun v6 =>
 bnd (stO (C m) 276 t4 v6) fun _ =>
 retV (C m) [(some 276, t4), (none, t11), (none, t12)]
theorem K151_9_eq (m : Nat) (call : CallF) : compF c151_9 (C m) call (fun e => K151_2 m call (e 4)) (exitF 0 (fun e => K151_2 m call (e 4)) nx) (Z151 m) = (fun e => K151_9 m call (e 4) (e 10) (e 11) (e 12)) := by
  refine Eq.trans (b := (compF (pS1 c151_9) (C m) call (Z151 m) (exitF 0 (fun e => K151_2 m call (e 4)) nx) (Z151 m))) (by kernel_rfl) ?_
  kernel_rfl
noncomputable def K151_8 (m : Nat) (call : CallF) (t4 t10 t11 t12 : AV) : Kt :=
 bnd (binO (C m) .eql 42 t12 (I 0)) fun v0 =>
 bnd (gdO (wantV v0 true) (ldO (C m) 390 t10)) fun v1 =>
 bnd (gdO (wantV v0 true) (calO (C m) call (fnV 212) [v1])) fun v2 =>
 bnd (pickO v0 v2 (B false)) fun v3 =>
 ifB v3
 ((K151_9 m call t4 t10 t11 (I 14)))
 ((K151_9 m call t4 t10 t11 t12))
theorem K151_8_eq (m : Nat) (call : CallF) : compF c151_8 (C m) call (fun e => K151_2 m call (e 4)) (exitF 0 (fun e => K151_2 m call (e 4)) nx) (Z151 m) = (fun e => K151_8 m call (e 4) (e 10) (e 11) (e 12)) := by
  refine Eq.trans (b := (compF (pS1 (pS1 c151_8)) (C m) call (fun e => ifB (e 53) ((compF (pC1 (pS2 (pS1 c151_8))) (C m) call (compF c151_9 (C m) call (fun e => K151_2 m call (e 4)) (exitF 0 (fun e => K151_2 m call (e 4)) nx) (Z151 m)) (exitF 0 (fun e => K151_2 m call (e 4)) nx) (Z151 m)) e) ((compF c151_9 (C m) call (fun e => K151_2 m call (e 4)) (exitF 0 (fun e => K151_2 m call (e 4)) nx) (Z151 m)) e)) (exitF 0 (fun e => K151_2 m call (e 4)) nx) (Z151 m))) (by kernel_rfl) ?_
  rw [K151_9_eq m call ]
  first | done | (show _ = _; kernel_rfl)
noncomputable def K151_7 (m : Nat) (call : CallF) (t1 t4 t40 : AV) : Kt :=
 ifB t40
 ((bnd (calO (C m) call (fnV 211) [t1]) fun v0 =>
 bnd (extO v0 0) fun v1 =>
 bnd (extO v0 1) fun v2 =>
 bnd (extO v0 2) fun v3 =>
 bnd (newO (C m) 390) fun v4 =>
 bnd (stO (C m) 390 v4 v1) fun _ =>
 K151_8 m call t4 v4 v2 v3))
 ((K151_2 m call t4))
theorem K151_7_eq (m : Nat) (call : CallF) : compF c151_7 (C m) call (fun e => K151_2 m call (e 4)) (exitF 0 (fun e => K151_2 m call (e 4)) nx) (Z151 m) = (fun e => K151_7 m call (e 1) (e 4) (e 40)) := by
  refine Eq.trans (b := (fun e => ifB (e 40) ((compF (pS1 (pC1 c151_7)) (C m) call (compF c151_8 (C m) call (fun e => K151_2 m call (e 4)) (exitF 0 (fun e => K151_2 m call (e 4)) nx) (Z151 m)) (exitF 0 (fun e => K151_2 m call (e 4)) nx) (Z151 m)) e) ((fun e => K151_2 m call (e 4)) e))) (by kernel_rfl) ?_
  rw [K151_8_eq m call ]
  first | done | (show _ = _; kernel_rfl)
noncomputable def K151_4 (m : Nat) (call : CallF) (t1 t4 t13 t14 : AV) : Kt :=
 ifB t14
 ((bnd (calO (C m) call (fnV 210) [t1]) fun v0 =>
 bnd (extO v0 0) fun v1 =>
 bnd (extO v0 1) fun v2 =>
 bnd (extO v0 2) fun v3 =>
 bnd (newO (C m) 385) fun v4 =>
 bnd (stO (C m) 385 v4 v1) fun _ =>
 K151_5 m call t4 v4 v2 v3))
 ((bnd (binO (C m) .eql 3 t13 (I 34525)) fun v5 =>
 K151_7 m call t1 t4 v5))
theorem K151_4_eq (m : Nat) (call : CallF) : compF c151_4 (C m) call (fun e => K151_2 m call (e 4)) (exitF 0 (fun e => K151_2 m call (e 4)) nx) (Z151 m) = (fun e => K151_4 m call (e 1) (e 4) (e 13) (e 14)) := by
  refine Eq.trans (b := (fun e => ifB (e 14) ((compF (pS1 (pC1 c151_4)) (C m) call (compF c151_5 (C m) call (fun e => K151_2 m call (e 4)) (exitF 0 (fun e => K151_2 m call (e 4)) nx) (Z151 m)) (exitF 0 (fun e => K151_2 m call (e 4)) nx) (Z151 m)) e) ((compF (pS1 (pC2 c151_4)) (C m) call (compF c151_7 (C m) call (fun e => K151_2 m call (e 4)) (exitF 0 (fun e => K151_2 m call (e 4)) nx) (Z151 m)) (exitF 0 (fun e => K151_2 m call (e 4)) nx) (Z151 m)) e))) (by kernel_rfl) ?_
  rw [K151_5_eq m call , K151_7_eq m call ]
  first | done | (show _ = _; kernel_rfl)
noncomputable def K151_3 (m : Nat) (call : CallF) (t1 t4 t13 : AV) : Kt :=
 bnd (binO (C m) .eql 3 t13 (I 2048)) fun v0 =>
 K151_4 m call t1 t4 t13 v0
theorem K151_3_eq (m : Nat) (call : CallF) : compF c151_3 (C m) call (fun e => K151_2 m call (e 4)) nx (Z151 m) = (fun e => K151_3 m call (e 1) (e 4) (e 13)) := by
  refine Eq.trans (b := (compF (pS1 (pB c151_3)) (C m) call (compF c151_4 (C m) call (fun e => K151_2 m call (e 4)) (exitF 0 (fun e => K151_2 m call (e 4)) nx) (Z151 m)) (exitF 0 (fun e => K151_2 m call (e 4)) nx) (Z151 m))) (by kernel_rfl) ?_
  rw [K151_4_eq m call ]
  first | done | (show _ = _; kernel_rfl)
noncomputable def K151_1 (m : Nat) (call : CallF) (t0 t1 t4 : AV) : Kt :=
 K151_3 m call t1 t4 t0
theorem K151_1_eq (m : Nat) (call : CallF) : compF c151_1 (C m) call (Z151 m) nx (Z151 m) = (fun e => K151_1 m call (e 0) (e 1) (e 4)) := by
  refine Eq.trans (b := (compF (pS1 (pS1 c151_1)) (C m) call (compF c151_3 (C m) call (compF c151_2 (C m) call (Z151 m) nx (Z151 m)) nx (Z151 m)) nx (Z151 m))) (by kernel_rfl) ?_
  rw [K151_2_eq m call , K151_3_eq m call ]
  first | done | (show _ = _; kernel_rfl)
noncomputable def K151_0 (m : Nat) (call : CallF) (t0 t1 : AV) : Kt :=
 bnd (newO (C m) 276) fun v0 =>
 K151_1 m call t0 t1 v0
theorem K151_0_eq (m : Nat) (call : CallF) : compF c151_0 (C m) call (Z151 m) nx (Z151 m) = (fun e => K151_0 m call (e 0) (e 1)) := by
  refine Eq.trans (b := (compF (pS1 c151_0) (C m) call (compF c151_1 (C m) call (Z151 m) nx (Z151 m)) nx (Z151 m))) (by kernel_rfl) ?_
  rw [K151_1_eq m call ]
  first | done | (show _ = _; kernel_rfl)
theorem F151_eq (m : Nat) (call : CallF) (t0 t1 : AV) : enterK (C m) call Tryz.f151 [t0, t1] = K151_0 m call t0 t1 := by
  refine Eq.trans (b := (compF c151_0 (C m) call (Z151 m) nx (Z151 m)) (argF [t0, t1])) (by kernel_rfl) ?_
  rw [K151_0_eq m call]
  first | done | rfl
/-! rillmeter/flow.Extract -/
noncomputable def c110_0 : Code := (bodyOf Tryz.f110)
noncomputable def c110_1 : Code := (pS2 c110_0)
noncomputable def c110_2 : Code := (pS2 c110_1)
noncomputable def c110_3 : Code := (pS2 c110_2)
noncomputable def c110_4 : Code := (pS2 c110_3)
noncomputable def c110_5 : Code := (pS2 c110_4)
noncomputable def c110_6 : Code := (pS2 c110_5)
noncomputable def c110_7 : Code := (pS2 c110_6)
noncomputable def Z110 (m : Nat) := fun (e : Nat → AV) => retV (C m) (resE e Tryz.f110.results.toList)
noncomputable def K110_7 (m : Nat) (call : CallF) (t2 t7 t8 : AV) : Kt :=
 bnd (fadO (C m) 276 t7 2) fun v0 =>
 bnd (ldO (C m) 3 v0) fun v1 =>
 bnd (calO (C m) call (fnV 152) [v1, t8]) fun v2 =>
 bnd (extO v2 0) fun v3 =>
 bnd (extO v2 1) fun v4 =>
 bnd (extO v2 2) fun v5 =>
 bnd (extO v2 3) fun v6 =>
 bnd (fadO (C m) 276 t7 3) fun v7 =>
 bnd (stO (C m) 3 v7 v3) fun _ =>
 bnd (fadO (C m) 276 t7 4) fun v8 =>
 bnd (stO (C m) 3 v8 v4) fun _ =>
 bnd (binO (C m) .neq 42 v6 (I 0)) fun v9 =>
 ifB v9
 ((bnd (bldO (C m) 276 []) fun v10 =>
 bnd (stO (C m) 276 t2 v10) fun _ =>
 retV (C m) [(some 276, t2), (none, v6)]))
 ((bnd (ldO (C m) 276 t7) fun v11 =>
 bnd (stO (C m) 276 t2 v11) fun _ =>
 retV (C m) [(some 276, t2), (none, (I 0))]))
theorem K110_7_eq (m : Nat) (call : CallF) : compF c110_7 (C m) call (Z110 m) nx (Z110 m) = (fun e => K110_7 m call (e 2) (e 7) (e 8)) := by
  refine Eq.trans (b := (compF (pS1 (pS1 c110_7)) (C m) call (compF (pS1 (pS2 (pS1 c110_7))) (C m) call (fun e => ifB (e 56) ((compF (pS1 (pC1 (pS2 (pS2 (pS1 c110_7))))) (C m) call (Z110 m) nx (Z110 m)) e) ((compF (pS1 (pS2 c110_7)) (C m) call (Z110 m) nx (Z110 m)) e)) nx (Z110 m)) nx (Z110 m))) (by kernel_rfl) ?_
  kernel_rfl
noncomputable def K110_6 (m : Nat) (call : CallF) (t2 t7 t8 : AV) : Kt :=
 bnd (fadO (C m) 276 t7 2) fun v0 =>
 bnd (ldO (C m) 3 v0) fun v1 =>
 bnd (binO (C m) .neq 3 v1 (I 6)) fun v2 =>
 bnd (gdO (wantV v2 true) (fadO (C m) 276 t7 2)) fun v3 =>
 bnd (gdO (wantV v2 true) (ldO (C m) 3 v3)) fun v4 =>
 bnd (gdO (wantV v2 true) (binO (C m) .neq 3 v4 (I 17))) fun v5 =>
 bnd (pickO v2 v5 (B false)) fun v6 =>
 ifB v6
 ((bnd (ldO (C m) 276 t7) fun v7 =>
 bnd (stO (C m) 276 t2 v7) fun _ =>
 retV (C m) [(some 276, t2), (none, (I 0))]))
 ((K110_7 m call t2 t7 t8))
theorem K110_6_eq (m : Nat) (call : CallF) : compF c110_6 (C m) call (Z110 m) nx (Z110 m) = (fun e => K110_6 m call (e 2) (e 7) (e 8)) := by
  refine Eq.trans (b := (compF (pS1 (pS1 c110_6)) (C m) call (fun e => ifB (e 42) ((compF (pS1 (pC1 (pS2 (pS1 c110_6)))) (C m) call (Z110 m) nx (Z110 m)) e) ((compF c110_7 (C m) call (Z110 m) nx (Z110 m)) e)) nx (Z110 m))) (by kernel_rfl) ?_
  rw [K110_7_eq m call ]
  first | done | (show _ = _; kernel_rfl)
noncomputable def K110_5 (m : Nat) (call : CallF) (t2 t6 t7 t8 : AV) : Kt :=
 bnd (binO (C m) .neq 42 t6 (I 0)) fun v0 =>
 ifB v0
 ((bnd (bldO (C m) 276 []) fun v1 =>
 bnd (stO (C m) 276 t2 v1) fun _ =>
 retV (C m) [(some 276, t2), (none, t6)]))
 ((K110_6 m call t2 t7 t8))
theorem K110_5_eq (m : Nat) (call : CallF) : compF c110_5 (C m) call (Z110 m) nx (Z110 m) = (fun e => K110_5 m call (e 2) (e 6) (e 7) (e 8)) := by
  refine Eq.trans (b := (compF (pS1 (pS1 c110_5)) (C m) call (fun e => ifB (e 32) ((compF (pS1 (pC1 (pS2 (pS1 c110_5)))) (C m) call (Z110 m) nx (Z110 m)) e) ((compF c110_6 (C m) call (Z110 m) nx (Z110 m)) e)) nx (Z110 m))) (by kernel_rfl) ?_
  rw [K110_6_eq m call ]
  first | done | (show _ = _; kernel_rfl)
noncomputable def K110_4 (m : Nat) (call : CallF) (t2 t4 t5 : AV) : Kt :=
 bnd (fadO (C m) 325 t4 3) fun v0 =>
 bnd (ldO (C m) 3 v0) fun v1 =>
 bnd (calO (C m) call (fnV 151) [v1, t5]) fun v2 =>
 bnd (extO v2 0) fun v3 =>
 bnd (extO v2 1) fun v4 =>
 bnd (extO v2 2) fun v5 =>
 bnd (newO (C m) 276) fun v6 =>
 bnd (stO (C m) 276 v6 v3) fun _ =>
 K110_5 m call t2 v5 v6 v4
theorem K110_4_eq (m : Nat) (call : CallF) : compF c110_4 (C m) call (Z110 m) nx (Z110 m) = (fun e => K110_4 m call (e 2) (e 4) (e 5)) := by
  refine Eq.trans (b := (compF (pS1 c110_4) (C m) call (compF c110_5 (C m) call (Z110 m) nx (Z110 m)) nx (Z110 m))) (by kernel_rfl) ?_
  rw [K110_5_eq m call ]
  first | done | (show _ = _; kernel_rfl)
noncomputable def K110_3 (m : Nat) (call : CallF) (t2 t4 t5 t6 : AV) : Kt :=
 bnd (binO (C m) .neq 42 t6 (I 0)) fun v0 =>
 ifB v0
 ((bnd (bldO (C m) 276 []) fun v1 =>
 bnd (stO (C m) 276 t2 v1) fun _ =>
 retV (C m) [(some 276, t2), (none, t6)]))
 ((K110_4 m call t2 t4 t5))
theorem K110_3_eq (m : Nat) (call : CallF) : compF c110_3 (C m) call (Z110 m) nx (Z110 m) = (fun e => K110_3 m call (e 2) (e 4) (e 5) (e 6)) := by
  refine Eq.trans (b := (compF (pS1 (pS1 c110_3)) (C m) call (fun e => ifB (e 20) ((compF (pS1 (pC1 (pS2 (pS1 c110_3)))) (C m) call (Z110 m) nx (Z110 m)) e) ((compF c110_4 (C m) call (Z110 m) nx (Z110 m)) e)) nx (Z110 m))) (by kernel_rfl) ?_
  rw [K110_4_eq m call ]
  first | done | (show _ = _; kernel_rfl)
noncomputable def K110_2 (m : Nat) (call : CallF) (t0 t2 : AV) : Kt :=
 bnd (calO (C m) call (fnV 150) [t0]) fun v0 =>
 bnd (extO v0 0) fun v1 =>
 bnd (extO v0 1) fun v2 =>
 bnd (extO v0 2) fun v3 =>
 bnd (newO (C m) 325) fun v4 =>
 bnd (stO (C m) 325 v4 v1) fun _ =>
 K110_3 m call t2 v4 v2 v3
theorem K110_2_eq (m : Nat) (call : CallF) : compF c110_2 (C m) call (Z110 m) nx (Z110 m) = (fun e => K110_2 m call (e 0) (e 2)) := by
  refine Eq.trans (b := (compF (pS1 c110_2) (C m) call (compF c110_3 (C m) call (Z110 m) nx (Z110 m)) nx (Z110 m))) (by kernel_rfl) ?_
  rw [K110_3_eq m call ]
  first | done | (show _ = _; kernel_rfl)
noncomputable def K110_1 (m : Nat) (call : CallF) (t0 t2 : AV) : Kt :=
 bnd (bltO (C m) .len [9] [t0]) fun v0 =>
 bnd (binO (C m) .gtr 3 v0 (I 2048)) fun v1 =>
 ifB v1
 ((bnd (bldO (C m) 276 []) fun v2 =>
 bnd (stO (C m) 276 t2 v2) fun _ =>
 retV (C m) [(some 276, t2), (none, (I 4))]))
 ((K110_2 m call t0 t2))
theorem K110_1_eq (m : Nat) (call : CallF) : compF c110_1 (C m) call (Z110 m) nx (Z110 m) = (fun e => K110_1 m call (e 0) (e 2)) := by
  refine Eq.trans (b := (compF (pS1 (pS1 c110_1)) (C m) call (fun e => ifB (e 11) ((compF (pS1 (pC1 (pS2 (pS1 c110_1)))) (C m) call (Z110 m) nx (Z110 m)) e) ((compF c110_2 (C m) call (Z110 m) nx (Z110 m)) e)) nx (Z110 m))) (by kernel_rfl) ?_
  rw [K110_2_eq m call ]
  first | done | (show _ = _; kernel_rfl)
noncomputable def K110_0 (m : Nat) (call : CallF) (t0 : AV) : Kt :=
 bnd (newO (C m) 276) fun v0 =>
 K110_1 m call t0 v0
theorem K110_0_eq (m : Nat) (call : CallF) : compF c110_0 (C m) call (Z110 m) nx (Z110 m) = (fun e => K110_0 m call (e 0)) := by
  refine Eq.trans (b := (compF (pS1 c110_0) (C m) call (compF c110_1 (C m) call (Z110 m) nx (Z110 m)) nx (Z110 m))) (by kernel_rfl) ?_
  rw [K110_1_eq m call ]
  first | done | (show _ = _; kernel_rfl)
theorem F110_eq (m : Nat) (call : CallF) (t0 : AV) : enterK (C m) call Tryz.f110 [t0] = K110_0 m call t0 := by
  refine Eq.trans (b := (compF c110_0 (C m) call (Z110 m) nx (Z110 m)) (argF [t0])) (by kernel_rfl) ?_
  rw [K110_0_eq m call]
  first | done | rfl
end Go.Proofs.YtnoieleoklpciaaGreatDoor
