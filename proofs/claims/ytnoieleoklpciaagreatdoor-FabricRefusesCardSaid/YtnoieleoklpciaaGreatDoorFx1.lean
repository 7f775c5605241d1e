/- Functions of the program as plain functions over the interpreter's words, and the theorems that they are what the interpreter makes of the code. -/
import Derived.Test.YtnoieleoklpciaaGreatDoorCx
set_option linter.unusedVariables false
set_option linter.unusedSimpArgs false
namespace Go.Proofs.YtnoieleoklpciaaGreatDoor
open Go.Run
set_option maxRecDepth 100000
open Go
/-! rillmeter/field.Of -/
noncomputable def c146_0 : Code := (bodyOf Tryz.f146)
noncomputable def c146_1 : Code := (pS2 c146_0)
noncomputable def c146_2 : Code := (pS2 c146_1)
noncomputable def c146_3 : Code := (pS2 c146_2)
noncomputable def Z146 (m : Nat) := fun (e : Nat → AV) => retV (C m) (resE e Tryz.f146.results.toList)
noncomputable def K146_3 (m : Nat) (call : CallF) (t0 : AV) : Kt :=
 retV (C m) [(none, t0)]
theorem K146_3_eq (m : Nat) (call : CallF) : compF c146_3 (C m) call (Z146 m) nx (Z146 m) = (fun e => K146_3 m call (e 0)) := by
  refine Eq.trans (b := (compF (pS1 c146_3) (C m) call (Z146 m) nx (Z146 m))) (by kernel_rfl) ?_
  kernel_rfl
noncomputable def K146_2 (m : Nat) (call : CallF) (t0 : AV) : Kt :=
 bnd (binO (C m) .geq 27 t0 (Iu 2305843009213693951)) fun v0 =>
 ifB v0
 ((bnd (binO (C m) .sub 27 t0 (Iu 2305843009213693951)) fun v1 =>
 K146_3 m call v1))
 ((K146_3 m call t0))
theorem K146_2_eq (m : Nat) (call : CallF) : compF c146_2 (C m) call (Z146 m) nx (Z146 m) = (fun e => K146_2 m call (e 0)) := by
  refine Eq.trans (b := (compF (pS1 (pS1 c146_2)) (C m) call (fun e => ifB (e 9) ((compF (pC1 (pS2 (pS1 c146_2))) (C m) call (compF c146_3 (C m) call (Z146 m) nx (Z146 m)) nx (Z146 m)) e) ((compF c146_3 (C m) call (Z146 m) nx (Z146 m)) e)) nx (Z146 m))) (by kernel_rfl) ?_
  rw [K146_3_eq m call ]
  first | done | (show _ = _; kernel_rfl)
noncomputable def K146_1 (m : Nat) (call : CallF) (t0 : AV) : Kt :=
 bnd (binO (C m) .and 27 t0 (Iu 2305843009213693951)) fun v0 =>
 bnd (binO (C m) .shr 27 t0 (Iu 61)) fun v1 =>
 bnd (binO (C m) .add 27 v0 v1) fun v2 =>
 K146_2 m call v2
theorem K146_1_eq (m : Nat) (call : CallF) : compF c146_1 (C m) call (Z146 m) nx (Z146 m) = (fun e => K146_1 m call (e 0)) := by
  refine Eq.trans (b := (compF (pS1 c146_1) (C m) call (compF c146_2 (C m) call (Z146 m) nx (Z146 m)) nx (Z146 m))) (by kernel_rfl) ?_
  rw [K146_2_eq m call ]
  first | done | (show _ = _; kernel_rfl)
noncomputable def K146_0 (m : Nat) (call : CallF) (t0 : AV) : Kt :=
 K146_1 m call t0
theorem K146_0_eq (m : Nat) (call : CallF) : compF c146_0 (C m) call (Z146 m) nx (Z146 m) = (fun e => K146_0 m call (e 0)) := by
  refine Eq.trans (b := (compF (pS1 c146_0) (C m) call (compF c146_1 (C m) call (Z146 m) nx (Z146 m)) nx (Z146 m))) (by kernel_rfl) ?_
  rw [K146_1_eq m call ]
  first | done | (show _ = _; kernel_rfl)
theorem F146_eq (m : Nat) (call : CallF) (t0 : AV) : enterK (C m) call Tryz.f146 [t0] = K146_0 m call t0 := by
  refine Eq.trans (b := (compF c146_0 (C m) call (Z146 m) nx (Z146 m)) (argF [t0])) (by kernel_rfl) ?_
  rw [K146_0_eq m call]
  first | done | rfl
/-! rillmeter/field.Add -/
noncomputable def c99_0 : Code := (bodyOf Tryz.f99)
noncomputable def Z99 (m : Nat) := fun (e : Nat → AV) => retV (C m) (resE e Tryz.f99.results.toList)
noncomputable def K99_0 (m : Nat) (call : CallF) (t0 t1 : AV) : Kt :=
 bnd (calO (C m) call (fnV 146) [t0]) fun v0 =>
 bnd (calO (C m) call (fnV 146) [t1]) fun v1 =>
 bnd (binO (C m) .add 27 v0 v1) fun v2 =>
 bnd (calO (C m) call (fnV 146) [v2]) fun v3 =>
 retV (C m) [(none, v3)]
theorem K99_0_eq (m : Nat) (call : CallF) : compF c99_0 (C m) call (Z99 m) nx (Z99 m) = (fun e => K99_0 m call (e 0) (e 1)) := by
  refine Eq.trans (b := (compF (pS1 c99_0) (C m) call (compF (pS1 (pS2 c99_0)) (C m) call (Z99 m) nx (Z99 m)) nx (Z99 m))) (by kernel_rfl) ?_
  kernel_rfl
theorem F99_eq (m : Nat) (call : CallF) (t0 t1 : AV) : enterK (C m) call Tryz.f99 [t0, t1] = K99_0 m call t0 t1 := by
  refine Eq.trans (b := (compF c99_0 (C m) call (Z99 m) nx (Z99 m)) (argF [t0, t1])) (by kernel_rfl) ?_
  rw [K99_0_eq m call]
  first | done | rfl
/-! math/bits.Mul64 -/
noncomputable def c147_0 : Code := (bodyOf Tryz.f147)
noncomputable def c147_1 : Code := (pS2 c147_0)
noncomputable def c147_2 : Code := (pS2 c147_1)
noncomputable def c147_3 : Code := (pS2 c147_2)
noncomputable def c147_4 : Code := (pS2 c147_3)
noncomputable def c147_5 : Code := (pS2 c147_4)
noncomputable def c147_6 : Code := (pS2 c147_5)
noncomputable def c147_7 : Code := (pS2 c147_6)
noncomputable def c147_8 : Code := (pS2 c147_7)
noncomputable def Z147 (m : Nat) := fun (e : Nat → AV) => retV (C m) (resE e Tryz.f147.results.toList)
noncomputable def K147_8 (m : Nat) (call : CallF) (t0 t1 t6 t7 t9 t11 t12 : AV) : Kt :=
 bnd (binO (C m) .shr 27 t11 (Iu 32)) fun v0 =>
 bnd (binO (C m) .mul 27 t6 t9) fun v1 =>
 bnd (binO (C m) .add 27 t12 v1) fun v2 =>
 bnd (binO (C m) .mul 27 t7 t9) fun v3 =>
 bnd (binO (C m) .add 27 v3 v0) fun v4 =>
 bnd (binO (C m) .shr 27 v2 (Iu 32)) fun v5 =>
 bnd (binO (C m) .add 27 v4 v5) fun v6 =>
 bnd (binO (C m) .mul 27 t0 t1) fun v7 =>
 retV (C m) [(none, v6), (none, v7)]
theorem K147_8_eq (m : Nat) (call : CallF) : compF c147_8 (C m) call (Z147 m) nx (Z147 m) = (fun e => K147_8 m call (e 0) (e 1) (e 6) (e 7) (e 9) (e 11) (e 12)) := by
  refine Eq.trans (b := (compF (pS1 c147_8) (C m) call (compF (pS1 (pS2 c147_8)) (C m) call (compF (pS1 (pS2 (pS2 c147_8))) (C m) call (compF (pS1 (pS2 (pS2 (pS2 c147_8)))) (C m) call (Z147 m) nx (Z147 m)) nx (Z147 m)) nx (Z147 m)) nx (Z147 m))) (by kernel_rfl) ?_
  kernel_rfl
noncomputable def K147_7 (m : Nat) (call : CallF) (t0 t1 t6 t7 t9 t11 : AV) : Kt :=
 bnd (binO (C m) .and 27 t11 (Iu 4294967295)) fun v0 =>
 K147_8 m call t0 t1 t6 t7 t9 t11 v0
theorem K147_7_eq (m : Nat) (call : CallF) : compF c147_7 (C m) call (Z147 m) nx (Z147 m) = (fun e => K147_7 m call (e 0) (e 1) (e 6) (e 7) (e 9) (e 11)) := by
  refine Eq.trans (b := (compF (pS1 c147_7) (C m) call (compF c147_8 (C m) call (Z147 m) nx (Z147 m)) nx (Z147 m))) (by kernel_rfl) ?_
  rw [K147_8_eq m call ]
  first | done | (show _ = _; kernel_rfl)
noncomputable def K147_6 (m : Nat) (call : CallF) (t0 t1 t6 t7 t8 t9 t10 : AV) : Kt :=
 bnd (binO (C m) .mul 27 t7 t8) fun v0 =>
 bnd (binO (C m) .shr 27 t10 (Iu 32)) fun v1 =>
 bnd (binO (C m) .add 27 v0 v1) fun v2 =>
 K147_7 m call t0 t1 t6 t7 t9 v2
theorem K147_6_eq (m : Nat) (call : CallF) : compF c147_6 (C m) call (Z147 m) nx (Z147 m) = (fun e => K147_6 m call (e 0) (e 1) (e 6) (e 7) (e 8) (e 9) (e 10)) := by
  refine Eq.trans (b := (compF (pS1 c147_6) (C m) call (compF c147_7 (C m) call (Z147 m) nx (Z147 m)) nx (Z147 m))) (by kernel_rfl) ?_
  rw [K147_7_eq m call ]
  first | done | (show _ = _; kernel_rfl)
noncomputable def K147_5 (m : Nat) (call : CallF) (t0 t1 t6 t7 t8 t9 : AV) : Kt :=
 bnd (binO (C m) .mul 27 t6 t8) fun v0 =>
 K147_6 m call t0 t1 t6 t7 t8 t9 v0
theorem K147_5_eq (m : Nat) (call : CallF) : compF c147_5 (C m) call (Z147 m) nx (Z147 m) = (fun e => K147_5 m call (e 0) (e 1) (e 6) (e 7) (e 8) (e 9)) := by
  refine Eq.trans (b := (compF (pS1 c147_5) (C m) call (compF c147_6 (C m) call (Z147 m) nx (Z147 m)) nx (Z147 m))) (by kernel_rfl) ?_
  rw [K147_6_eq m call ]
  first | done | (show _ = _; kernel_rfl)
noncomputable def K147_4 (m : Nat) (call : CallF) (t0 t1 t6 t7 t8 : AV) : Kt :=
 bnd (binO (C m) .shr 27 t1 (Iu 32)) fun v0 =>
 K147_5 m call t0 t1 t6 t7 t8 v0
theorem K147_4_eq (m : Nat) (call : CallF) : compF c147_4 (C m) call (Z147 m) nx (Z147 m) = (fun e => K147_4 m call (e 0) (e 1) (e 6) (e 7) (e 8)) := by
  refine Eq.trans (b := (compF (pS1 c147_4) (C m) call (compF c147_5 (C m) call (Z147 m) nx (Z147 m)) nx (Z147 m))) (by kernel_rfl) ?_
  rw [K147_5_eq m call ]
  first | done | (show _ = _; kernel_rfl)
noncomputable def K147_3 (m : Nat) (call : CallF) (t0 t1 t6 t7 : AV) : Kt :=
 bnd (binO (C m) .and 27 t1 (Iu 4294967295)) fun v0 =>
 K147_4 m call t0 t1 t6 t7 v0
theorem K147_3_eq (m : Nat) (call : CallF) : compF c147_3 (C m) call (Z147 m) nx (Z147 m) = (fun e => K147_3 m call (e 0) (e 1) (e 6) (e 7)) := by
  refine Eq.trans (b := (compF (pS1 c147_3) (C m) call (compF c147_4 (C m) call (Z147 m) nx (Z147 m)) nx (Z147 m))) (by kernel_rfl) ?_
  rw [K147_4_eq m call ]
  first | done | (show _ = _; kernel_rfl)
noncomputable def K147_2 (m : Nat) (call : CallF) (t0 t1 t6 : AV) : Kt :=
 bnd (binO (C m) .shr 27 t0 (Iu 32)) fun v0 =>
 K147_3 m call t0 t1 t6 v0
theorem K147_2_eq (m : Nat) (call : CallF) : compF c147_2 (C m) call (Z147 m) nx (Z147 m) = (fun e => K147_2 m call (e 0) (e 1) (e 6)) := by
  refine Eq.trans (b := (compF (pS1 c147_2) (C m) call (compF c147_3 (C m) call (Z147 m) nx (Z147 m)) nx (Z147 m))) (by kernel_rfl) ?_
  rw [K147_3_eq m call ]
  first | done | (show _ = _; kernel_rfl)
noncomputable def K147_1 (m : Nat) (call : CallF) (t0 t1 : AV) : Kt :=
 bnd (binO (C m) .and 27 t0 (Iu 4294967295)) fun v0 =>
 K147_2 m call t0 t1 v0
theorem K147_1_eq (m : Nat) (call : CallF) : compF c147_1 (C m) call (Z147 m) nx (Z147 m) = (fun e => K147_1 m call (e 0) (e 1)) := by
  refine Eq.trans (b := (compF (pS1 c147_1) (C m) call (compF c147_2 (C m) call (Z147 m) nx (Z147 m)) nx (Z147 m))) (by kernel_rfl) ?_
  rw [K147_2_eq m call ]
  first | done | (show _ = _; kernel_rfl)
noncomputable def K147_0 (m : Nat) (call : CallF) (t0 t1 : AV) : Kt :=
 K147_1 m call t0 t1
theorem K147_0_eq (m : Nat) (call : CallF) : compF c147_0 (C m) call (Z147 m) nx (Z147 m) = (fun e => K147_0 m call (e 0) (e 1)) := by
  refine Eq.trans (b := (compF (pS1 c147_0) (C m) call (compF c147_1 (C m) call (Z147 m) nx (Z147 m)) nx (Z147 m))) (by kernel_rfl) ?_
  rw [K147_1_eq m call ]
  first | done | (show _ = _; kernel_rfl)
theorem F147_eq (m : Nat) (call : CallF) (t0 t1 : AV) : enterK (C m) call Tryz.f147 [t0, t1] = K147_0 m call t0 t1 := by
  refine Eq.trans (b := (compF c147_0 (C m) call (Z147 m) nx (Z147 m)) (argF [t0, t1])) (by kernel_rfl) ?_
  rw [K147_0_eq m call]
  first | done | rfl
/-! rillmeter/field.Mul -/
noncomputable def c100_0 : Code := (bodyOf Tryz.f100)
noncomputable def Z100 (m : Nat) := fun (e : Nat → AV) => retV (C m) (resE e Tryz.f100.results.toList)
noncomputable def K100_0 (m : Nat) (call : CallF) (t0 t1 : AV) : Kt :=
 bnd (calO (C m) call (fnV 146) [t0]) fun v0 =>
 bnd (calO (C m) call (fnV 146) [t1]) fun v1 =>
 bnd (calO (C m) call (fnV 147) [v0, v1]) fun v2 =>
 bnd (extO v2 0) fun v3 =>
 bnd (extO v2 1) fun v4 =>
 bnd (binO (C m) .and 27 v4 (Iu 2305843009213693951)) fun v5 =>
 bnd (binO (C m) .shr 27 v4 (Iu 61)) fun v6 =>
 bnd (binO (C m) .shl 27 v3 (Iu 3)) fun v7 =>
 bnd (binO (C m) .or 27 v6 v7) fun v8 =>
 bnd (binO (C m) .add 27 v5 v8) fun v9 =>
 bnd (calO (C m) call (fnV 146) [v9]) fun v10 =>
 retV (C m) [(none, v10)]
theorem K100_0_eq (m : Nat) (call : CallF) : compF c100_0 (C m) call (Z100 m) nx (Z100 m) = (fun e => K100_0 m call (e 0) (e 1)) := by
  refine Eq.trans (b := (compF (pS1 c100_0) (C m) call (compF (pS1 (pS2 c100_0)) (C m) call (compF (pS1 (pS2 (pS2 c100_0))) (C m) call (Z100 m) nx (Z100 m)) nx (Z100 m)) nx (Z100 m))) (by kernel_rfl) ?_
  kernel_rfl
theorem F100_eq (m : Nat) (call : CallF) (t0 t1 : AV) : enterK (C m) call Tryz.f100 [t0, t1] = K100_0 m call t0 t1 := by
  refine Eq.trans (b := (compF c100_0 (C m) call (Z100 m) nx (Z100 m)) (argF [t0, t1])) (by kernel_rfl) ?_
  rw [K100_0_eq m call]
  first | done | rfl
/-! rillmeter/hash.Row -/
noncomputable def c60_0 : Code := (bodyOf Tryz.f60)
noncomputable def Z60 (m : Nat) := fun (e : Nat → AV) => retV (C m) (resE e Tryz.f60.results.toList)
noncomputable def K60_0 (m : Nat) (call : CallF) (t0 t1 : AV) : Kt :=
 bnd (calO (C m) call (fnV 99) [t0, (Iu 3)]) fun v0 =>
 bnd (bltO (C m) .max [3, 3] [t1, (I 0)]) fun v1 =>
 bnd (cvO (C m) 3 27 v1) fun v2 =>
 bnd (calO (C m) call (fnV 99) [v2, (Iu 2)]) fun v3 =>
 bnd (calO (C m) call (fnV 100) [v0, v3]) fun v4 =>
 bnd (calO (C m) call (fnV 99) [v4, (Iu 5)]) fun v5 =>
 bnd (calO (C m) call (fnV 100) [v5, v5]) fun v6 =>
 retV (C m) [(none, v6)]
theorem K60_0_eq (m : Nat) (call : CallF) : compF c60_0 (C m) call (Z60 m) nx (Z60 m) = (fun e => K60_0 m call (e 0) (e 1)) := by
  refine Eq.trans (b := (compF (pS1 c60_0) (C m) call (compF (pS1 (pS2 c60_0)) (C m) call (compF (pS1 (pS2 (pS2 c60_0))) (C m) call (Z60 m) nx (Z60 m)) nx (Z60 m)) nx (Z60 m))) (by kernel_rfl) ?_
  kernel_rfl
theorem F60_eq (m : Nat) (call : CallF) (t0 t1 : AV) : enterK (C m) call Tryz.f60 [t0, t1] = K60_0 m call t0 t1 := by
  refine Eq.trans (b := (compF c60_0 (C m) call (Z60 m) nx (Z60 m)) (argF [t0, t1])) (by kernel_rfl) ?_
  rw [K60_0_eq m call]
  first | done | rfl
/-! rillmeter/field.Pow -/
noncomputable def c273_0 : Code := (bodyOf Tryz.f273)
noncomputable def c273_1 : Code := (pS2 c273_0)
noncomputable def c273_2 : Code := (pS2 c273_1)
noncomputable def c273_3 : Code := (pS2 c273_2)
noncomputable def c273_4 : Code := (pS2 (pS1 c273_2))
noncomputable def c273_5 : Code := (pL (pB c273_4))
noncomputable def c273_6 : Code := (pS2 c273_5)
noncomputable def c273_7 : Code := (pS2 c273_6)
noncomputable def c273_8 : Code := (pS2 (pB (pS1 c273_6)))
noncomputable def Z273 (m : Nat) := fun (e : Nat → AV) => retV (C m) (resE e Tryz.f273.results.toList)
noncomputable def K273_3 (m : Nat) (call : CallF) (t5 : AV) : Kt :=
 retV (C m) [(none, t5)]
theorem K273_3_eq (m : Nat) (call : CallF) : compF c273_3 (C m) call (Z273 m) nx (Z273 m) = (fun e => K273_3 m call (e 5)) := by
  refine Eq.trans (b := (compF (pS1 c273_3) (C m) call (Z273 m) nx (Z273 m))) (by kernel_rfl) ?_
  kernel_rfl
noncomputable def K273_7 (m : Nat) (call : CallF) (h5 : AV → AV → AV → Kt) (t0 t1 t5 : AV) : Kt :=
 bnd (binO (C m) .shr 27 t1 (Iu 1)) fun v0 =>
 h5 t0 v0 t5
theorem K273_7_eq (m : Nat) (call : CallF) (h5 : AV → AV → AV → Kt) : compF c273_7 (C m) call (fun e => h5 (e 0) (e 1) (e 5)) (exitF 0 (fun e => K273_3 m call (e 5)) nx) (Z273 m) = (fun e => K273_7 m call h5 (e 0) (e 1) (e 5)) := by
  kernel_rfl
noncomputable def K273_8 (m : Nat) (call : CallF) (h5 : AV → AV → AV → Kt) (t0 t1 t5 : AV) : Kt :=
 bnd (calO (C m) call (fnV 100) [t0, t0]) fun v0 =>
 K273_7 m call h5 v0 t1 t5
theorem K273_8_eq (m : Nat) (call : CallF) (h5 : AV → AV → AV → Kt) : compF c273_8 (C m) call (fun e => K273_7 m call h5 (e 0) (e 1) (e 5)) (exitF 1 (fun e => K273_7 m call h5 (e 0) (e 1) (e 5)) (exitF 0 (fun e => K273_3 m call (e 5)) nx)) (Z273 m) = (fun e => K273_8 m call h5 (e 0) (e 1) (e 5)) := by
  kernel_rfl
noncomputable def K273_6 (m : Nat) (call : CallF) (h5 : AV → AV → AV → Kt) (t0 t1 t5 : AV) : Kt :=
 bnd (binO (C m) .and 27 t1 (Iu 1)) fun v0 =>
 bnd (binO (C m) .eql 27 v0 (Iu 1)) fun v1 =>
 ifB v1
 ((bnd (calO (C m) call (fnV 100) [t5, t0]) fun v2 =>
 K273_8 m call h5 t0 t1 v2))
 ((K273_8 m call h5 t0 t1 t5))
theorem K273_6_eq (m : Nat) (call : CallF) (h5 : AV → AV → AV → Kt) : compF c273_6 (C m) call (fun e => h5 (e 0) (e 1) (e 5)) (exitF 0 (fun e => K273_3 m call (e 5)) nx) (Z273 m) = (fun e => K273_6 m call h5 (e 0) (e 1) (e 5)) := by
  refine Eq.trans (b := (compF (pS1 (pS1 (pB (pS1 c273_6)))) (C m) call (fun e => ifB (e 14) ((compF (pC1 (pS2 (pS1 (pB (pS1 c273_6))))) (C m) call (compF c273_8 (C m) call (compF c273_7 (C m) call (fun e => h5 (e 0) (e 1) (e 5)) (exitF 0 (fun e => K273_3 m call (e 5)) nx) (Z273 m)) (exitF 1 (compF c273_7 (C m) call (fun e => h5 (e 0) (e 1) (e 5)) (exitF 0 (fun e => K273_3 m call (e 5)) nx) (Z273 m)) (exitF 0 (fun e => K273_3 m call (e 5)) nx)) (Z273 m)) (exitF 1 (compF c273_7 (C m) call (fun e => h5 (e 0) (e 1) (e 5)) (exitF 0 (fun e => K273_3 m call (e 5)) nx) (Z273 m)) (exitF 0 (fun e => K273_3 m call (e 5)) nx)) (Z273 m)) e) ((compF c273_8 (C m) call (compF c273_7 (C m) call (fun e => h5 (e 0) (e 1) (e 5)) (exitF 0 (fun e => K273_3 m call (e 5)) nx) (Z273 m)) (exitF 1 (compF c273_7 (C m) call (fun e => h5 (e 0) (e 1) (e 5)) (exitF 0 (fun e => K273_3 m call (e 5)) nx) (Z273 m)) (exitF 0 (fun e => K273_3 m call (e 5)) nx)) (Z273 m)) e)) (exitF 1 (compF c273_7 (C m) call (fun e => h5 (e 0) (e 1) (e 5)) (exitF 0 (fun e => K273_3 m call (e 5)) nx) (Z273 m)) (exitF 0 (fun e => K273_3 m call (e 5)) nx)) (Z273 m))) (by kernel_rfl) ?_
  rw [K273_7_eq m call h5 , K273_8_eq m call h5 ]
  first | done | (show _ = _; kernel_rfl)
noncomputable def L273_5_b (m : Nat) (call : CallF) (h5 : AV → AV → AV → Kt) (t0 t1 t5 : AV) : Kt :=
 bnd (binO (C m) .gtr 27 t1 (Iu 0)) fun v0 =>
 ifB v0
 ((K273_6 m call h5 t0 t1 t5))
 ((K273_3 m call t5))
noncomputable def L273_5 (m : Nat) (call : CallF) (n : Nat) : AV → AV → AV → Kt :=
 Nat.rec (motive := fun _ => AV → AV → AV → Kt) (fun t0 t1 t5 => noK) (fun _ ih => L273_5_b m call ih) n
theorem L273_5_b_eq (m : Nat) (call : CallF) (h5 : AV → AV → AV → Kt) : compF c273_5 (C m) call (fun e => h5 (e 0) (e 1) (e 5)) (exitF 0 (fun e => K273_3 m call (e 5)) nx) (Z273 m) = fun e => L273_5_b m call h5 (e 0) (e 1) (e 5) := by
  refine Eq.trans (b := (compF (pS1 (pS1 c273_5)) (C m) call (fun e => ifB (e 9) ((compF c273_6 (C m) call (fun e => h5 (e 0) (e 1) (e 5)) (exitF 0 (fun e => K273_3 m call (e 5)) nx) (Z273 m)) e) ((fun e => K273_3 m call (e 5)) e)) (exitF 0 (fun e => K273_3 m call (e 5)) nx) (Z273 m))) (by kernel_rfl) ?_
  rw [K273_6_eq m call h5 ]
  first | done | (show _ = _; kernel_rfl)
theorem L273_5_eq (m : Nat) (call : CallF) (n : Nat) : (loopF (fun k => compF c273_5 (C m) call k (exitF 0 (fun e => K273_3 m call (e 5)) nx) (Z273 m)) n) = (fun e => L273_5 m call n (e 0) (e 1) (e 5)) := by
  induction n with
  | zero => rfl
  | succ n ih =>
    show compF c273_5 (C m) call (loopF (fun k => compF c273_5 (C m) call k (exitF 0 (fun e => K273_3 m call (e 5)) nx) (Z273 m)) n) (exitF 0 (fun e => K273_3 m call (e 5)) nx) (Z273 m) = _
    rw [ih, L273_5_b_eq m call (L273_5 m call n)]
    rfl
theorem L273_5_succ (m : Nat) (call : CallF) (n : Nat) : L273_5 m call (n + 1) = L273_5_b m call (L273_5 m call n) := rfl
noncomputable def K273_4 (m : Nat) (call : CallF) (t0 t1 t5 : AV) : Kt :=
 L273_5 m call m t0 t1 t5
theorem K273_4_eq (m : Nat) (call : CallF) : compF c273_4 (C m) call (fun e => K273_3 m call (e 5)) nx (Z273 m) = (fun e => K273_4 m call (e 0) (e 1) (e 5)) := by
  refine Eq.trans (b := (loopF (fun k => compF c273_5 (C m) call k (exitF 0 (fun e => K273_3 m call (e 5)) nx) (Z273 m)) m)) (by kernel_rfl) ?_
  rw [L273_5_eq m call m]
  first | done | (show _ = _; kernel_rfl)
noncomputable def K273_2 (m : Nat) (call : CallF) (t0 t1 t5 : AV) : Kt :=
 bnd (calO (C m) call (fnV 146) [t0]) fun v0 =>
 K273_4 m call v0 t1 t5
theorem K273_2_eq (m : Nat) (call : CallF) : compF c273_2 (C m) call (Z273 m) nx (Z273 m) = (fun e => K273_2 m call (e 0) (e 1) (e 5)) := by
  refine Eq.trans (b := (compF (pS1 (pS1 c273_2)) (C m) call (compF c273_4 (C m) call (compF c273_3 (C m) call (Z273 m) nx (Z273 m)) nx (Z273 m)) nx (Z273 m))) (by kernel_rfl) ?_
  rw [K273_3_eq m call , K273_4_eq m call ]
  first | done | (show _ = _; kernel_rfl)
noncomputable def K273_1 (m : Nat) (call : CallF) (t0 t1 : AV) : Kt :=
 K273_2 m call t0 t1 (Iu 1)
theorem K273_1_eq (m : Nat) (call : CallF) : compF c273_1 (C m) call (Z273 m) nx (Z273 m) = (fun e => K273_1 m call (e 0) (e 1)) := by
  refine Eq.trans (b := (compF (pS1 c273_1) (C m) call (compF c273_2 (C m) call (Z273 m) nx (Z273 m)) nx (Z273 m))) (by kernel_rfl) ?_
  rw [K273_2_eq m call ]
  first | done | (show _ = _; kernel_rfl)
noncomputable def K273_0 (m : Nat) (call : CallF) (t0 t1 : AV) : Kt :=
 K273_1 m call t0 t1
theorem K273_0_eq (m : Nat) (call : CallF) : compF c273_0 (C m) call (Z273 m) nx (Z273 m) = (fun e => K273_0 m call (e 0) (e 1)) := by
  refine Eq.trans (b := (compF (pS1 c273_0) (C m) call (compF c273_1 (C m) call (Z273 m) nx (Z273 m)) nx (Z273 m))) (by kernel_rfl) ?_
  rw [K273_1_eq m call ]
  first | done | (show _ = _; kernel_rfl)
theorem F273_eq (m : Nat) (call : CallF) (t0 t1 : AV) : enterK (C m) call Tryz.f273 [t0, t1] = K273_0 m call t0 t1 := by
  refine Eq.trans (b := (compF c273_0 (C m) call (Z273 m) nx (Z273 m)) (argF [t0, t1])) (by kernel_rfl) ?_
  rw [K273_0_eq m call]
  first | done | rfl
/-! rillmeter/hash.Sum -/
noncomputable def c231_0 : Code := (bodyOf Tryz.f231)
noncomputable def c231_1 : Code := (pS2 c231_0)
noncomputable def c231_2 : Code := (pS2 c231_1)
noncomputable def c231_3 : Code := (pS2 c231_2)
noncomputable def c231_4 : Code := (pS2 c231_3)
noncomputable def c231_5 : Code := (pS2 (pS1 c231_3))
noncomputable def c231_6 : Code := (pL (pB c231_5))
noncomputable def c231_7 : Code := (pS2 c231_6)
noncomputable def c231_8 : Code := (pS2 c231_7)
noncomputable def c231_9 : Code := (pS2 (pB (pS1 c231_7)))
noncomputable def c231_10 : Code := (pS2 c231_9)
noncomputable def c231_11 : Code := (pS2 (pS1 c231_9))
noncomputable def c231_12 : Code := (pL (pB c231_11))
noncomputable def c231_13 : Code := (pS2 c231_12)
noncomputable def c231_14 : Code := (pS2 c231_13)
noncomputable def c231_15 : Code := (pS2 c231_14)
noncomputable def Z231 (m : Nat) := fun (e : Nat → AV) => retV (C m) (resE e Tryz.f231.results.toList)
noncomputable def K231_4 (m : Nat) (call : CallF) (t5 t6 : AV) : Kt :=
 bnd (calO (C m) call (fnV 100) [t6, t5]) fun v0 =>
 bnd (calO (C m) call (fnV 273) [v0, (Iu 17)]) fun v1 =>
 retV (C m) [(none, v1)]
theorem K231_4_eq (m : Nat) (call : CallF) : compF c231_4 (C m) call (Z231 m) nx (Z231 m) = (fun e => K231_4 m call (e 5) (e 6)) := by
  refine Eq.trans (b := (compF (pS1 c231_4) (C m) call (Z231 m) nx (Z231 m))) (by kernel_rfl) ?_
  kernel_rfl
noncomputable def K231_8 (m : Nat) (call : CallF) (h6 : AV → AV → AV → AV → Kt) (t1 t5 t6 t7 : AV) : Kt :=
 bnd (binO (C m) .add 3 t7 (I 4)) fun v0 =>
 h6 t1 t5 t6 v0
theorem K231_8_eq (m : Nat) (call : CallF) (h6 : AV → AV → AV → AV → Kt) : compF c231_8 (C m) call (fun e => h6 (e 1) (e 5) (e 6) (e 7)) (exitF 0 (fun e => K231_4 m call (e 5) (e 6)) nx) (Z231 m) = (fun e => K231_8 m call h6 (e 1) (e 5) (e 6) (e 7)) := by
  kernel_rfl
noncomputable def K231_10 (m : Nat) (call : CallF) (h6 : AV → AV → AV → AV → Kt) (t1 t5 t6 t7 t8 : AV) : Kt :=
 bnd (calO (C m) call (fnV 100) [t6, t5]) fun v0 =>
 bnd (binO (C m) .add 27 t8 (Iu 1)) fun v1 =>
 bnd (calO (C m) call (fnV 99) [v0, v1]) fun v2 =>
 K231_8 m call h6 t1 t5 v2 t7
theorem K231_10_eq (m : Nat) (call : CallF) (h6 : AV → AV → AV → AV → Kt) : compF c231_10 (C m) call (fun e => K231_8 m call h6 (e 1) (e 5) (e 6) (e 7)) (exitF 1 (fun e => K231_8 m call h6 (e 1) (e 5) (e 6) (e 7)) (exitF 0 (fun e => K231_4 m call (e 5) (e 6)) nx)) (Z231 m) = (fun e => K231_10 m call h6 (e 1) (e 5) (e 6) (e 7) (e 8)) := by
  kernel_rfl
noncomputable def K231_15 (m : Nat) (call : CallF) (h6 : AV → AV → AV → AV → Kt) (h12 : AV → AV → AV → AV → AV → AV → Kt) (t1 t5 t6 t7 t8 t21 : AV) : Kt :=
 bnd (binO (C m) .add 3 t21 (I 1)) fun v0 =>
 h12 t1 t5 t6 t7 t8 v0
theorem K231_15_eq (m : Nat) (call : CallF) (h6 : AV → AV → AV → AV → Kt) (h12 : AV → AV → AV → AV → AV → AV → Kt) : compF c231_15 (C m) call (fun e => h12 (e 1) (e 5) (e 6) (e 7) (e 8) (e 21)) (exitF 2 (fun e => K231_10 m call h6 (e 1) (e 5) (e 6) (e 7) (e 8)) (exitF 1 (fun e => K231_8 m call h6 (e 1) (e 5) (e 6) (e 7)) (exitF 0 (fun e => K231_4 m call (e 5) (e 6)) nx))) (Z231 m) = (fun e => K231_15 m call h6 h12 (e 1) (e 5) (e 6) (e 7) (e 8) (e 21)) := by
  kernel_rfl
noncomputable def K231_14 (m : Nat) (call : CallF) (h6 : AV → AV → AV → AV → Kt) (h12 : AV → AV → AV → AV → AV → AV → Kt) (t1 t5 t6 t7 t8 t21 : AV) : Kt :=
 bnd (binO (C m) .shl 27 t8 (Iu 8)) fun v0 =>
 bnd (binO (C m) .add 3 t7 t21) fun v1 =>
 bnd (bltO (C m) .len [9] [t1]) fun v2 =>
 bnd (binO (C m) .lss 3 v1 v2) fun v3 =>
 ifB v3
 ((bnd (binO (C m) .add 3 t7 t21) fun v4 =>
 bnd (idxO (C m) 9 t1 v4) fun v5 =>
 bnd (cvO (C m) 5 27 v5) fun v6 =>
 bnd (binO (C m) .or 27 v0 v6) fun v7 =>
 K231_15 m call h6 h12 t1 t5 t6 t7 v7 t21))
 ((K231_15 m call h6 h12 t1 t5 t6 t7 v0 t21))
theorem K231_14_eq (m : Nat) (call : CallF) (h6 : AV → AV → AV → AV → Kt) (h12 : AV → AV → AV → AV → AV → AV → Kt) : compF c231_14 (C m) call (fun e => h12 (e 1) (e 5) (e 6) (e 7) (e 8) (e 21)) (exitF 2 (fun e => K231_10 m call h6 (e 1) (e 5) (e 6) (e 7) (e 8)) (exitF 1 (fun e => K231_8 m call h6 (e 1) (e 5) (e 6) (e 7)) (exitF 0 (fun e => K231_4 m call (e 5) (e 6)) nx))) (Z231 m) = (fun e => K231_14 m call h6 h12 (e 1) (e 5) (e 6) (e 7) (e 8) (e 21)) := by
  refine Eq.trans (b := (compF (pS1 (pB (pS1 c231_14))) (C m) call (compF (pS1 (pS2 (pB (pS1 c231_14)))) (C m) call (compF (pS1 (pS2 (pS2 (pB (pS1 c231_14))))) (C m) call (fun e => ifB (e 31) ((compF (pC1 (pS2 (pS2 (pS2 (pB (pS1 c231_14)))))) (C m) call (compF c231_15 (C m) call (fun e => h12 (e 1) (e 5) (e 6) (e 7) (e 8) (e 21)) (exitF 2 (fun e => K231_10 m call h6 (e 1) (e 5) (e 6) (e 7) (e 8)) (exitF 1 (fun e => K231_8 m call h6 (e 1) (e 5) (e 6) (e 7)) (exitF 0 (fun e => K231_4 m call (e 5) (e 6)) nx))) (Z231 m)) (exitF 3 (compF c231_15 (C m) call (fun e => h12 (e 1) (e 5) (e 6) (e 7) (e 8) (e 21)) (exitF 2 (fun e => K231_10 m call h6 (e 1) (e 5) (e 6) (e 7) (e 8)) (exitF 1 (fun e => K231_8 m call h6 (e 1) (e 5) (e 6) (e 7)) (exitF 0 (fun e => K231_4 m call (e 5) (e 6)) nx))) (Z231 m)) (exitF 2 (fun e => K231_10 m call h6 (e 1) (e 5) (e 6) (e 7) (e 8)) (exitF 1 (fun e => K231_8 m call h6 (e 1) (e 5) (e 6) (e 7)) (exitF 0 (fun e => K231_4 m call (e 5) (e 6)) nx)))) (Z231 m)) e) ((compF c231_15 (C m) call (fun e => h12 (e 1) (e 5) (e 6) (e 7) (e 8) (e 21)) (exitF 2 (fun e => K231_10 m call h6 (e 1) (e 5) (e 6) (e 7) (e 8)) (exitF 1 (fun e => K231_8 m call h6 (e 1) (e 5) (e 6) (e 7)) (exitF 0 (fun e => K231_4 m call (e 5) (e 6)) nx))) (Z231 m)) e)) (exitF 3 (compF c231_15 (C m) call (fun e => h12 (e 1) (e 5) (e 6) (e 7) (e 8) (e 21)) (exitF 2 (fun e => K231_10 m call h6 (e 1) (e 5) (e 6) (e 7) (e 8)) (exitF 1 (fun e => K231_8 m call h6 (e 1) (e 5) (e 6) (e 7)) (exitF 0 (fun e => K231_4 m call (e 5) (e 6)) nx))) (Z231 m)) (exitF 2 (fun e => K231_10 m call h6 (e 1) (e 5) (e 6) (e 7) (e 8)) (exitF 1 (fun e => K231_8 m call h6 (e 1) (e 5) (e 6) (e 7)) (exitF 0 (fun e => K231_4 m call (e 5) (e 6)) nx)))) (Z231 m)) (exitF 3 (compF c231_15 (C m) call (fun e => h12 (e 1) (e 5) (e 6) (e 7) (e 8) (e 21)) (exitF 2 (fun e => K231_10 m call h6 (e 1) (e 5) (e 6) (e 7) (e 8)) (exitF 1 (fun e => K231_8 m call h6 (e 1) (e 5) (e 6) (e 7)) (exitF 0 (fun e => K231_4 m call (e 5) (e 6)) nx))) (Z231 m)) (exitF 2 (fun e => K231_10 m call h6 (e 1) (e 5) (e 6) (e 7) (e 8)) (exitF 1 (fun e => K231_8 m call h6 (e 1) (e 5) (e 6) (e 7)) (exitF 0 (fun e => K231_4 m call (e 5) (e 6)) nx)))) (Z231 m)) (exitF 3 (compF c231_15 (C m) call (fun e => h12 (e 1) (e 5) (e 6) (e 7) (e 8) (e 21)) (exitF 2 (fun e => K231_10 m call h6 (e 1) (e 5) (e 6) (e 7) (e 8)) (exitF 1 (fun e => K231_8 m call h6 (e 1) (e 5) (e 6) (e 7)) (exitF 0 (fun e => K231_4 m call (e 5) (e 6)) nx))) (Z231 m)) (exitF 2 (fun e => K231_10 m call h6 (e 1) (e 5) (e 6) (e 7) (e 8)) (exitF 1 (fun e => K231_8 m call h6 (e 1) (e 5) (e 6) (e 7)) (exitF 0 (fun e => K231_4 m call (e 5) (e 6)) nx)))) (Z231 m))) (by kernel_rfl) ?_
  rw [K231_15_eq m call h6 h12 ]
  first | done | (show _ = _; kernel_rfl)
noncomputable def K231_13 (m : Nat) (call : CallF) (h6 : AV → AV → AV → AV → Kt) (h12 : AV → AV → AV → AV → AV → AV → Kt) (t1 t5 t6 t7 t8 t21 t22 : AV) : Kt :=
 ifB t22
 ((K231_14 m call h6 h12 t1 t5 t6 t7 t8 t21))
 ((K231_10 m call h6 t1 t5 t6 t7 t8))
theorem K231_13_eq (m : Nat) (call : CallF) (h6 : AV → AV → AV → AV → Kt) (h12 : AV → AV → AV → AV → AV → AV → Kt) : compF c231_13 (C m) call (fun e => h12 (e 1) (e 5) (e 6) (e 7) (e 8) (e 21)) (exitF 2 (fun e => K231_10 m call h6 (e 1) (e 5) (e 6) (e 7) (e 8)) (exitF 1 (fun e => K231_8 m call h6 (e 1) (e 5) (e 6) (e 7)) (exitF 0 (fun e => K231_4 m call (e 5) (e 6)) nx))) (Z231 m) = (fun e => K231_13 m call h6 h12 (e 1) (e 5) (e 6) (e 7) (e 8) (e 21) (e 22)) := by
  refine Eq.trans (b := (fun e => ifB (e 22) ((compF c231_14 (C m) call (fun e => h12 (e 1) (e 5) (e 6) (e 7) (e 8) (e 21)) (exitF 2 (fun e => K231_10 m call h6 (e 1) (e 5) (e 6) (e 7) (e 8)) (exitF 1 (fun e => K231_8 m call h6 (e 1) (e 5) (e 6) (e 7)) (exitF 0 (fun e => K231_4 m call (e 5) (e 6)) nx))) (Z231 m)) e) ((fun e => K231_10 m call h6 (e 1) (e 5) (e 6) (e 7) (e 8)) e))) (by kernel_rfl) ?_
  rw [K231_14_eq m call h6 h12 ]
  first | done | (show _ = _; kernel_rfl)
noncomputable def L231_12_b (m : Nat) (call : CallF) (h6 : AV → AV → AV → AV → Kt) (h12 : AV → AV → AV → AV → AV → AV → Kt) (t1 t5 t6 t7 t8 t21 : AV) : Kt :=
 bnd (binO (C m) .lss 3 t21 (I 4)) fun v0 =>
 K231_13 m call h6 h12 t1 t5 t6 t7 t8 t21 v0
noncomputable def L231_12 (m : Nat) (call : CallF) (h6 : AV → AV → AV → AV → Kt) (n : Nat) : AV → AV → AV → AV → AV → AV → Kt :=
 Nat.rec (motive := fun _ => AV → AV → AV → AV → AV → AV → Kt) (fun t1 t5 t6 t7 t8 t21 => noK) (fun _ ih => L231_12_b m call h6 ih) n
theorem L231_12_b_eq (m : Nat) (call : CallF) (h6 : AV → AV → AV → AV → Kt) (h12 : AV → AV → AV → AV → AV → AV → Kt) : compF c231_12 (C m) call (fun e => h12 (e 1) (e 5) (e 6) (e 7) (e 8) (e 21)) (exitF 2 (fun e => K231_10 m call h6 (e 1) (e 5) (e 6) (e 7) (e 8)) (exitF 1 (fun e => K231_8 m call h6 (e 1) (e 5) (e 6) (e 7)) (exitF 0 (fun e => K231_4 m call (e 5) (e 6)) nx))) (Z231 m) = fun e => L231_12_b m call h6 h12 (e 1) (e 5) (e 6) (e 7) (e 8) (e 21) := by
  refine Eq.trans (b := (compF (pS1 c231_12) (C m) call (compF c231_13 (C m) call (fun e => h12 (e 1) (e 5) (e 6) (e 7) (e 8) (e 21)) (exitF 2 (fun e => K231_10 m call h6 (e 1) (e 5) (e 6) (e 7) (e 8)) (exitF 1 (fun e => K231_8 m call h6 (e 1) (e 5) (e 6) (e 7)) (exitF 0 (fun e => K231_4 m call (e 5) (e 6)) nx))) (Z231 m)) (exitF 2 (fun e => K231_10 m call h6 (e 1) (e 5) (e 6) (e 7) (e 8)) (exitF 1 (fun e => K231_8 m call h6 (e 1) (e 5) (e 6) (e 7)) (exitF 0 (fun e => K231_4 m call (e 5) (e 6)) nx))) (Z231 m))) (by kernel_rfl) ?_
  rw [K231_13_eq m call h6 h12 ]
  first | done | (show _ = _; kernel_rfl)
theorem L231_12_eq (m : Nat) (call : CallF) (h6 : AV → AV → AV → AV → Kt) (n : Nat) : (loopF (fun k => compF c231_12 (C m) call k (exitF 2 (fun e => K231_10 m call h6 (e 1) (e 5) (e 6) (e 7) (e 8)) (exitF 1 (fun e => K231_8 m call h6 (e 1) (e 5) (e 6) (e 7)) (exitF 0 (fun e => K231_4 m call (e 5) (e 6)) nx))) (Z231 m)) n) = (fun e => L231_12 m call h6 n (e 1) (e 5) (e 6) (e 7) (e 8) (e 21)) := by
  induction n with
  | zero => rfl
  | succ n ih =>
    show compF c231_12 (C m) call (loopF (fun k => compF c231_12 (C m) call k (exitF 2 (fun e => K231_10 m call h6 (e 1) (e 5) (e 6) (e 7) (e 8)) (exitF 1 (fun e => K231_8 m call h6 (e 1) (e 5) (e 6) (e 7)) (exitF 0 (fun e => K231_4 m call (e 5) (e 6)) nx))) (Z231 m)) n) (exitF 2 (fun e => K231_10 m call h6 (e 1) (e 5) (e 6) (e 7) (e 8)) (exitF 1 (fun e => K231_8 m call h6 (e 1) (e 5) (e 6) (e 7)) (exitF 0 (fun e => K231_4 m call (e 5) (e 6)) nx))) (Z231 m) = _
    rw [ih, L231_12_b_eq m call h6 (L231_12 m call h6 n)]
    rfl
theorem L231_12_succ (m : Nat) (call : CallF) (h6 : AV → AV → AV → AV → Kt) (n : Nat) : L231_12 m call h6 (n + 1) = L231_12_b m call h6 (L231_12 m call h6 n) := rfl
noncomputable def K231_11 (m : Nat) (call : CallF) (h6 : AV → AV → AV → AV → Kt) (t1 t5 t6 t7 t8 t21 : AV) : Kt :=
 L231_12 m call h6 m t1 t5 t6 t7 t8 t21
theorem K231_11_eq (m : Nat) (call : CallF) (h6 : AV → AV → AV → AV → Kt) : compF c231_11 (C m) call (fun e => K231_10 m call h6 (e 1) (e 5) (e 6) (e 7) (e 8)) (exitF 1 (fun e => K231_8 m call h6 (e 1) (e 5) (e 6) (e 7)) (exitF 0 (fun e => K231_4 m call (e 5) (e 6)) nx)) (Z231 m) = (fun e => K231_11 m call h6 (e 1) (e 5) (e 6) (e 7) (e 8) (e 21)) := by
  refine Eq.trans (b := (loopF (fun k => compF c231_12 (C m) call k (exitF 2 (fun e => K231_10 m call h6 (e 1) (e 5) (e 6) (e 7) (e 8)) (exitF 1 (fun e => K231_8 m call h6 (e 1) (e 5) (e 6) (e 7)) (exitF 0 (fun e => K231_4 m call (e 5) (e 6)) nx))) (Z231 m)) m)) (by kernel_rfl) ?_
  rw [L231_12_eq m call h6 m]
  first | done | (show _ = _; kernel_rfl)
noncomputable def K231_9 (m : Nat) (call : CallF) (h6 : AV → AV → AV → AV → Kt) (t1 t5 t6 t7 t8 : AV) : Kt :=
 K231_11 m call h6 t1 t5 t6 t7 t8 (I 0)
theorem K231_9_eq (m : Nat) (call : CallF) (h6 : AV → AV → AV → AV → Kt) : compF c231_9 (C m) call (fun e => K231_8 m call h6 (e 1) (e 5) (e 6) (e 7)) (exitF 1 (fun e => K231_8 m call h6 (e 1) (e 5) (e 6) (e 7)) (exitF 0 (fun e => K231_4 m call (e 5) (e 6)) nx)) (Z231 m) = (fun e => K231_9 m call h6 (e 1) (e 5) (e 6) (e 7) (e 8)) := by
  refine Eq.trans (b := (compF (pS1 (pS1 c231_9)) (C m) call (compF c231_11 (C m) call (compF c231_10 (C m) call (fun e => K231_8 m call h6 (e 1) (e 5) (e 6) (e 7)) (exitF 1 (fun e => K231_8 m call h6 (e 1) (e 5) (e 6) (e 7)) (exitF 0 (fun e => K231_4 m call (e 5) (e 6)) nx)) (Z231 m)) (exitF 1 (fun e => K231_8 m call h6 (e 1) (e 5) (e 6) (e 7)) (exitF 0 (fun e => K231_4 m call (e 5) (e 6)) nx)) (Z231 m)) (exitF 1 (fun e => K231_8 m call h6 (e 1) (e 5) (e 6) (e 7)) (exitF 0 (fun e => K231_4 m call (e 5) (e 6)) nx)) (Z231 m))) (by kernel_rfl) ?_
  rw [K231_10_eq m call h6 , K231_11_eq m call h6 ]
  first | done | (show _ = _; kernel_rfl)
noncomputable def K231_7 (m : Nat) (call : CallF) (h6 : AV → AV → AV → AV → Kt) (t1 t5 t6 t7 : AV) : Kt :=
 K231_9 m call h6 t1 t5 t6 t7 (Iu 0)
theorem K231_7_eq (m : Nat) (call : CallF) (h6 : AV → AV → AV → AV → Kt) : compF c231_7 (C m) call (fun e => h6 (e 1) (e 5) (e 6) (e 7)) (exitF 0 (fun e => K231_4 m call (e 5) (e 6)) nx) (Z231 m) = (fun e => K231_7 m call h6 (e 1) (e 5) (e 6) (e 7)) := by
  refine Eq.trans (b := (compF (pS1 (pB (pS1 c231_7))) (C m) call (compF c231_9 (C m) call (compF c231_8 (C m) call (fun e => h6 (e 1) (e 5) (e 6) (e 7)) (exitF 0 (fun e => K231_4 m call (e 5) (e 6)) nx) (Z231 m)) (exitF 1 (compF c231_8 (C m) call (fun e => h6 (e 1) (e 5) (e 6) (e 7)) (exitF 0 (fun e => K231_4 m call (e 5) (e 6)) nx) (Z231 m)) (exitF 0 (fun e => K231_4 m call (e 5) (e 6)) nx)) (Z231 m)) (exitF 1 (compF c231_8 (C m) call (fun e => h6 (e 1) (e 5) (e 6) (e 7)) (exitF 0 (fun e => K231_4 m call (e 5) (e 6)) nx) (Z231 m)) (exitF 0 (fun e => K231_4 m call (e 5) (e 6)) nx)) (Z231 m))) (by kernel_rfl) ?_
  rw [K231_8_eq m call h6 , K231_9_eq m call h6 ]
  first | done | (show _ = _; kernel_rfl)
noncomputable def L231_6_b (m : Nat) (call : CallF) (h6 : AV → AV → AV → AV → Kt) (t1 t5 t6 t7 : AV) : Kt :=
 bnd (bltO (C m) .len [9] [t1]) fun v0 =>
 bnd (binO (C m) .lss 3 t7 v0) fun v1 =>
 ifB v1
 ((K231_7 m call h6 t1 t5 t6 t7))
 ((K231_4 m call t5 t6))
noncomputable def L231_6 (m : Nat) (call : CallF) (n : Nat) : AV → AV → AV → AV → Kt :=
 Nat.rec (motive := fun _ => AV → AV → AV → AV → Kt) (fun t1 t5 t6 t7 => noK) (fun _ ih => L231_6_b m call ih) n
theorem L231_6_b_eq (m : Nat) (call : CallF) (h6 : AV → AV → AV → AV → Kt) : compF c231_6 (C m) call (fun e => h6 (e 1) (e 5) (e 6) (e 7)) (exitF 0 (fun e => K231_4 m call (e 5) (e 6)) nx) (Z231 m) = fun e => L231_6_b m call h6 (e 1) (e 5) (e 6) (e 7) := by
  refine Eq.trans (b := (compF (pS1 (pS1 c231_6)) (C m) call (fun e => ifB (e 18) ((compF c231_7 (C m) call (fun e => h6 (e 1) (e 5) (e 6) (e 7)) (exitF 0 (fun e => K231_4 m call (e 5) (e 6)) nx) (Z231 m)) e) ((fun e => K231_4 m call (e 5) (e 6)) e)) (exitF 0 (fun e => K231_4 m call (e 5) (e 6)) nx) (Z231 m))) (by kernel_rfl) ?_
  rw [K231_7_eq m call h6 ]
  first | done | (show _ = _; kernel_rfl)
theorem L231_6_eq (m : Nat) (call : CallF) (n : Nat) : (loopF (fun k => compF c231_6 (C m) call k (exitF 0 (fun e => K231_4 m call (e 5) (e 6)) nx) (Z231 m)) n) = (fun e => L231_6 m call n (e 1) (e 5) (e 6) (e 7)) := by
  induction n with
  | zero => rfl
  | succ n ih =>
    show compF c231_6 (C m) call (loopF (fun k => compF c231_6 (C m) call k (exitF 0 (fun e => K231_4 m call (e 5) (e 6)) nx) (Z231 m)) n) (exitF 0 (fun e => K231_4 m call (e 5) (e 6)) nx) (Z231 m) = _
    rw [ih, L231_6_b_eq m call (L231_6 m call n)]
    rfl
theorem L231_6_succ (m : Nat) (call : CallF) (n : Nat) : L231_6 m call (n + 1) = L231_6_b m call (L231_6 m call n) := rfl
noncomputable def K231_5 (m : Nat) (call : CallF) (t1 t5 t6 t7 : AV) : Kt :=
 L231_6 m call m t1 t5 t6 t7
theorem K231_5_eq (m : Nat) (call : CallF) : compF c231_5 (C m) call (fun e => K231_4 m call (e 5) (e 6)) nx (Z231 m) = (fun e => K231_5 m call (e 1) (e 5) (e 6) (e 7)) := by
  refine Eq.trans (b := (loopF (fun k => compF c231_6 (C m) call k (exitF 0 (fun e => K231_4 m call (e 5) (e 6)) nx) (Z231 m)) m)) (by kernel_rfl) ?_
  rw [L231_6_eq m call m]
  first | done | (show _ = _; kernel_rfl)
noncomputable def K231_3 (m : Nat) (call : CallF) (t1 t5 t6 : AV) : Kt :=
 K231_5 m call t1 t5 t6 (I 0)
theorem K231_3_eq (m : Nat) (call : CallF) : compF c231_3 (C m) call (Z231 m) nx (Z231 m) = (fun e => K231_3 m call (e 1) (e 5) (e 6)) := by
  refine Eq.trans (b := (compF (pS1 (pS1 c231_3)) (C m) call (compF c231_5 (C m) call (compF c231_4 (C m) call (Z231 m) nx (Z231 m)) nx (Z231 m)) nx (Z231 m))) (by kernel_rfl) ?_
  rw [K231_4_eq m call , K231_5_eq m call ]
  first | done | (show _ = _; kernel_rfl)
noncomputable def K231_2 (m : Nat) (call : CallF) (t1 t5 : AV) : Kt :=
 bnd (bltO (C m) .len [9] [t1]) fun v0 =>
 bnd (cvO (C m) 3 27 v0) fun v1 =>
 K231_3 m call t1 t5 v1
theorem K231_2_eq (m : Nat) (call : CallF) : compF c231_2 (C m) call (Z231 m) nx (Z231 m) = (fun e => K231_2 m call (e 1) (e 5)) := by
  refine Eq.trans (b := (compF (pS1 c231_2) (C m) call (compF c231_3 (C m) call (Z231 m) nx (Z231 m)) nx (Z231 m))) (by kernel_rfl) ?_
  rw [K231_3_eq m call ]
  first | done | (show _ = _; kernel_rfl)
noncomputable def K231_1 (m : Nat) (call : CallF) (t0 t1 : AV) : Kt :=
 bnd (calO (C m) call (fnV 99) [t0, (Iu 2)]) fun v0 =>
 K231_2 m call t1 v0
theorem K231_1_eq (m : Nat) (call : CallF) : compF c231_1 (C m) call (Z231 m) nx (Z231 m) = (fun e => K231_1 m call (e 0) (e 1)) := by
  refine Eq.trans (b := (compF (pS1 c231_1) (C m) call (compF c231_2 (C m) call (Z231 m) nx (Z231 m)) nx (Z231 m))) (by kernel_rfl) ?_
  rw [K231_2_eq m call ]
  first | done | (show _ = _; kernel_rfl)
noncomputable def K231_0 (m : Nat) (call : CallF) (t0 t1 : AV) : Kt :=
 K231_1 m call t0 t1
theorem K231_0_eq (m : Nat) (call : CallF) : compF c231_0 (C m) call (Z231 m) nx (Z231 m) = (fun e => K231_0 m call (e 0) (e 1)) := by
  refine Eq.trans (b := (compF (pS1 c231_0) (C m) call (compF c231_1 (C m) call (Z231 m) nx (Z231 m)) nx (Z231 m))) (by kernel_rfl) ?_
  rw [K231_1_eq m call ]
  first | done | (show _ = _; kernel_rfl)
theorem F231_eq (m : Nat) (call : CallF) (t0 t1 : AV) : enterK (C m) call Tryz.f231 [t0, t1] = K231_0 m call t0 t1 := by
  refine Eq.trans (b := (compF c231_0 (C m) call (Z231 m) nx (Z231 m)) (argF [t0, t1])) (by kernel_rfl) ?_
  rw [K231_0_eq m call]
  first | done | rfl
/-! rillmeter/hash.Cell -/
noncomputable def c214_0 : Code := (bodyOf Tryz.f214)
noncomputable def Z214 (m : Nat) := fun (e : Nat → AV) => retV (C m) (resE e Tryz.f214.results.toList)
noncomputable def K214_0 (m : Nat) (call : CallF) (t0 t1 t2 : AV) : Kt :=
 bnd (binO (C m) .lss 3 t2 (I 1)) fun v0 =>
 ifB v0
 ((retV (C m) [(none, (I 0))]))
 ((bnd (calO (C m) call (fnV 231) [t0, t1]) fun v1 =>
 bnd (cvO (C m) 3 27 t2) fun v2 =>
 bnd (binO (C m) .rem 27 v1 v2) fun v3 =>
 bnd (cvO (C m) 27 3 v3) fun v4 =>
 retV (C m) [(none, v4)]))
theorem K214_0_eq (m : Nat) (call : CallF) : compF c214_0 (C m) call (Z214 m) nx (Z214 m) = (fun e => K214_0 m call (e 0) (e 1) (e 2)) := by
  refine Eq.trans (b := (compF (pS1 c214_0) (C m) call (compF (pS1 (pS1 (pS2 c214_0))) (C m) call (fun e => ifB (e 8) ((compF (pS1 (pC1 (pS2 (pS1 (pS2 c214_0))))) (C m) call (Z214 m) nx (Z214 m)) e) ((compF (pS1 (pS2 (pS2 c214_0))) (C m) call (Z214 m) nx (Z214 m)) e)) nx (Z214 m)) nx (Z214 m))) (by kernel_rfl) ?_
  kernel_rfl
theorem F214_eq (m : Nat) (call : CallF) (t0 t1 t2 : AV) : enterK (C m) call Tryz.f214 [t0, t1, t2] = K214_0 m call t0 t1 t2 := by
  refine Eq.trans (b := (compF c214_0 (C m) call (Z214 m) nx (Z214 m)) (argF [t0, t1, t2])) (by kernel_rfl) ?_
  rw [K214_0_eq m call]
  first | done | rfl
/-! rillmeter/hash.Sign -/
noncomputable def c264_0 : Code := (bodyOf Tryz.f264)
noncomputable def Z264 (m : Nat) := fun (e : Nat → AV) => retV (C m) (resE e Tryz.f264.results.toList)
noncomputable def K264_0 (m : Nat) (call : CallF) (t0 t1 : AV) : Kt :=
 bnd (calO (C m) call (fnV 231) [t0, t1]) fun v0 =>
 bnd (binO (C m) .and 27 v0 (Iu 1)) fun v1 =>
 bnd (cvO (C m) 27 3 v1) fun v2 =>
 bnd (binO (C m) .mul 3 v2 (I 2)) fun v3 =>
 bnd (binO (C m) .sub 3 v3 (I 1)) fun v4 =>
 retV (C m) [(none, v4)]
theorem K264_0_eq (m : Nat) (call : CallF) : compF c264_0 (C m) call (Z264 m) nx (Z264 m) = (fun e => K264_0 m call (e 0) (e 1)) := by
  refine Eq.trans (b := (compF (pS1 c264_0) (C m) call (compF (pS1 (pS2 c264_0)) (C m) call (Z264 m) nx (Z264 m)) nx (Z264 m))) (by kernel_rfl) ?_
  kernel_rfl
theorem F264_eq (m : Nat) (call : CallF) (t0 t1 : AV) : enterK (C m) call Tryz.f264 [t0, t1] = K264_0 m call t0 t1 := by
  refine Eq.trans (b := (compF c264_0 (C m) call (Z264 m) nx (Z264 m)) (argF [t0, t1])) (by kernel_rfl) ?_
  rw [K264_0_eq m call]
  first | done | rfl
/-! math/bits.TrailingZeros64 -/
noncomputable def c232_0 : Code := (bodyOf Tryz.f232)
noncomputable def Z232 (m : Nat) := fun (e : Nat → AV) => retV (C m) (resE e Tryz.f232.results.toList)
noncomputable def K232_0 (m : Nat) (call : CallF) (t0 : AV) : Kt :=
 bnd (binO (C m) .eql 27 t0 (Iu 0)) fun v0 =>
 ifB v0
 ((retV (C m) [(none, (I 64))]))
 ((bnd (unO .neg t0) fun v1 =>
 bnd (binO (C m) .and 27 t0 v1) fun v2 =>
 bnd (binO (C m) .mul 27 v2 (Iu 285870213051353865)) fun v3 =>
 bnd (binO (C m) .shr 27 v3 (Iu 58)) fun v4 =>
 bnd (iadO (C m) 448 G0 v4) fun v5 =>
 bnd (ldO (C m) 5 v5) fun v6 =>
 bnd (cvO (C m) 5 3 v6) fun v7 =>
 retV (C m) [(none, v7)]))
theorem K232_0_eq (m : Nat) (call : CallF) : compF c232_0 (C m) call (Z232 m) nx (Z232 m) = (fun e => K232_0 m call (e 0)) := by
  refine Eq.trans (b := (compF (pS1 c232_0) (C m) call (compF (pS1 (pS1 (pS2 c232_0))) (C m) call (fun e => ifB (e 4) ((compF (pS1 (pC1 (pS2 (pS1 (pS2 c232_0))))) (C m) call (Z232 m) nx (Z232 m)) e) ((compF (pS1 (pS2 (pS2 c232_0))) (C m) call (Z232 m) nx (Z232 m)) e)) nx (Z232 m)) nx (Z232 m))) (by kernel_rfl) ?_
  kernel_rfl
theorem F232_eq (m : Nat) (call : CallF) (t0 : AV) : enterK (C m) call Tryz.f232 [t0] = K232_0 m call t0 := by
  refine Eq.trans (b := (compF c232_0 (C m) call (Z232 m) nx (Z232 m)) (argF [t0])) (by kernel_rfl) ?_
  rw [K232_0_eq m call]
  first | done | rfl
/-! rillmeter/hash.Level -/
noncomputable def c172_0 : Code := (bodyOf Tryz.f172)
noncomputable def c172_1 : Code := (pS2 c172_0)
noncomputable def Z172 (m : Nat) := fun (e : Nat → AV) => retV (C m) (resE e Tryz.f172.results.toList)
noncomputable def K172_1 (m : Nat) (call : CallF) (t0 t1 t2 : AV) : Kt :=
 bnd (calO (C m) call (fnV 231) [t0, t1]) fun v0 =>
 bnd (binO (C m) .eql 27 v0 (Iu 0)) fun v1 =>
 ifB v1
 ((bnd (bltO (C m) .max [3, 3] [t2, (I 0)]) fun v2 =>
 retV (C m) [(none, v2)]))
 ((bnd (calO (C m) call (fnV 232) [v0]) fun v3 =>
 bnd (bltO (C m) .min [3, 3] [v3, t2]) fun v4 =>
 bnd (bltO (C m) .max [3, 3] [v4, (I 0)]) fun v5 =>
 retV (C m) [(none, v5)]))
theorem K172_1_eq (m : Nat) (call : CallF) : compF c172_1 (C m) call (Z172 m) nx (Z172 m) = (fun e => K172_1 m call (e 0) (e 1) (e 2)) := by
  refine Eq.trans (b := (compF (pS1 c172_1) (C m) call (compF (pS1 (pS1 (pS2 c172_1))) (C m) call (fun e => ifB (e 12) ((compF (pS1 (pC1 (pS2 (pS1 (pS2 c172_1))))) (C m) call (Z172 m) nx (Z172 m)) e) ((compF (pS1 (pS2 (pS2 c172_1))) (C m) call (Z172 m) nx (Z172 m)) e)) nx (Z172 m)) nx (Z172 m))) (by kernel_rfl) ?_
  kernel_rfl
noncomputable def K172_0 (m : Nat) (call : CallF) (t0 t1 t2 : AV) : Kt :=
 K172_1 m call t0 t1 t2
theorem K172_0_eq (m : Nat) (call : CallF) : compF c172_0 (C m) call (Z172 m) nx (Z172 m) = (fun e => K172_0 m call (e 0) (e 1) (e 2)) := by
  refine Eq.trans (b := (compF (pS1 c172_0) (C m) call (compF c172_1 (C m) call (Z172 m) nx (Z172 m)) nx (Z172 m))) (by kernel_rfl) ?_
  rw [K172_1_eq m call ]
  first | done | (show _ = _; kernel_rfl)
theorem F172_eq (m : Nat) (call : CallF) (t0 t1 t2 : AV) : enterK (C m) call Tryz.f172 [t0, t1, t2] = K172_0 m call t0 t1 t2 := by
  refine Eq.trans (b := (compF c172_0 (C m) call (Z172 m) nx (Z172 m)) (argF [t0, t1, t2])) (by kernel_rfl) ?_
  rw [K172_0_eq m call]
  first | done | rfl
/-! rillmeter/octet.Cut -/
noncomputable def c193_0 : Code := (bodyOf Tryz.f193)
noncomputable def c193_1 : Code := (pS2 c193_0)
noncomputable def c193_2 : Code := (pS2 c193_1)
noncomputable def Z193 (m : Nat) := fun (e : Nat → AV) => retV (C m) (resE e Tryz.f193.results.toList)
noncomputable def K193_2 (m : Nat) (call : CallF) (t0 t1 : AV) : Kt :=
 dIn fun sv0 =>
 dChk (slcO (C m) 9 t0 none (some t1) none) fun v1 =>
 dChk (slcO (C m) 9 t0 (some t1) none none) fun v2 =>
 retV (C m) [(none, v1), (none, v2), (none, (I 0))]
theorem K193_2_eq (m : Nat) (call : CallF) : compF c193_2 (C m) call (Z193 m) nx (Z193 m) = (fun e => K193_2 m call (e 0) (e 1)) := by
  refine Eq.trans (b := (compF (pS1 c193_2) (C m) call (Z193 m) nx (Z193 m))) (by kernel_rfl) ?_
  kernel_rfl
noncomputable def K193_1 (m : Nat) (call : CallF) (t0 t1 : AV) : Kt :=
 bnd (binO (C m) .lss 3 t1 (I 0)) fun v0 =>
 ifB v0
 ((retV (C m) [(none, (S [])), (none, (S [])), (none, (I 1))]))
 ((bnd (bltO (C m) .len [9] [t0]) fun v1 =>
 bnd (binO (C m) .lss 3 v1 t1) fun v2 =>
 ifB v2
 ((retV (C m) [(none, (S [])), (none, (S [])), (none, (I 2))]))
 ((K193_2 m call t0 t1))))
theorem K193_1_eq (m : Nat) (call : CallF) : compF c193_1 (C m) call (Z193 m) nx (Z193 m) = (fun e => K193_1 m call (e 0) (e 1)) := by
  refine Eq.trans (b := (compF (pS1 (pB (pS1 c193_1))) (C m) call (fun e => ifB (e 7) ((compF (pS1 (pC1 (pS2 (pB (pS1 c193_1))))) (C m) call (Z193 m) (exitF 0 (compF c193_2 (C m) call (Z193 m) nx (Z193 m)) nx) (Z193 m)) e) ((compF (pS1 (pC2 (pS2 (pB (pS1 c193_1))))) (C m) call (fun e => ifB (e 10) ((compF (pS1 (pC1 (pS2 (pC2 (pS2 (pB (pS1 c193_1))))))) (C m) call (Z193 m) (exitF 0 (compF c193_2 (C m) call (Z193 m) nx (Z193 m)) nx) (Z193 m)) e) ((compF c193_2 (C m) call (Z193 m) nx (Z193 m)) e)) (exitF 0 (compF c193_2 (C m) call (Z193 m) nx (Z193 m)) nx) (Z193 m)) e)) (exitF 0 (compF c193_2 (C m) call (Z193 m) nx (Z193 m)) nx) (Z193 m))) (by kernel_rfl) ?_
  rw [K193_2_eq m call ]
  first | done | (show _ = _; kernel_rfl)
noncomputable def K193_0 (m : Nat) (call : CallF) (t0 t1 : AV) : Kt :=
 K193_1 m call t0 t1
theorem K193_0_eq (m : Nat) (call : CallF) : compF c193_0 (C m) call (Z193 m) nx (Z193 m) = (fun e => K193_0 m call (e 0) (e 1)) := by
  refine Eq.trans (b := (compF (pS1 c193_0) (C m) call (compF c193_1 (C m) call (Z193 m) nx (Z193 m)) nx (Z193 m))) (by kernel_rfl) ?_
  rw [K193_1_eq m call ]
  first | done | (show _ = _; kernel_rfl)
theorem F193_eq (m : Nat) (call : CallF) (t0 t1 : AV) : enterK (C m) call Tryz.f193 [t0, t1] = K193_0 m call t0 t1 := by
  refine Eq.trans (b := (compF c193_0 (C m) call (Z193 m) nx (Z193 m)) (argF [t0, t1])) (by kernel_rfl) ?_
  rw [K193_0_eq m call]
  first | done | rfl
/-! rillmeter/octet.Take -/
noncomputable def c181_0 : Code := (bodyOf Tryz.f181)
noncomputable def c181_1 : Code := (pS2 c181_0)
noncomputable def c181_2 : Code := (pS2 c181_1)
noncomputable def c181_3 : Code := (pS2 c181_2)
noncomputable def c181_4 : Code := (pS2 c181_3)
noncomputable def c181_5 : Code := (pS2 c181_4)
noncomputable def c181_6 : Code := (pS2 c181_5)
noncomputable def c181_7 : Code := (pS2 (pS1 c181_5))
noncomputable def c181_8 : Code := (pL (pB c181_7))
noncomputable def c181_9 : Code := (pS2 c181_8)
noncomputable def c181_10 : Code := (pS2 c181_9)
noncomputable def c181_11 : Code := (pS2 c181_10)
noncomputable def Z181 (m : Nat) := fun (e : Nat → AV) => retV (C m) (resE e Tryz.f181.results.toList)
noncomputable def K181_6 (m : Nat) (call : CallF) (t8 t10 : AV) : Kt :=
 retV (C m) [(none, t10), (none, t8), (none, (I 0))]
theorem K181_6_eq (m : Nat) (call : CallF) : compF c181_6 (C m) call (Z181 m) nx (Z181 m) = (fun e => K181_6 m call (e 8) (e 10)) := by
  refine Eq.trans (b := (compF (pS1 c181_6) (C m) call (Z181 m) nx (Z181 m))) (by kernel_rfl) ?_
  kernel_rfl
noncomputable def K181_11 (m : Nat) (call : CallF) (h8 : AV → AV → AV → AV → AV → Kt) (t7 t8 t10 t29 t30 : AV) : Kt :=
 bnd (binO (C m) .add 3 t30 (I 1)) fun v0 =>
 h8 t7 t8 t10 t29 v0
theorem K181_11_eq (m : Nat) (call : CallF) (h8 : AV → AV → AV → AV → AV → Kt) : compF c181_11 (C m) call (fun e => h8 (e 7) (e 8) (e 10) (e 29) (e 30)) (exitF 0 (fun e => K181_6 m call (e 8) (e 10)) nx) (Z181 m) = (fun e => K181_11 m call h8 (e 7) (e 8) (e 10) (e 29) (e 30)) := by
  kernel_rfl
noncomputable def K181_10 (m : Nat) (call : CallF) (h8 : AV → AV → AV → AV → AV → Kt) (t7 t8 t10 t29 t30 : AV) : Kt :=
 bnd (binO (C m) .shl 3 t10 (Iu 8)) fun v0 =>
 bnd (idxO (C m) 9 t7 t30) fun v1 =>
 bnd (cvO (C m) 5 3 v1) fun v2 =>
 bnd (binO (C m) .or 3 v0 v2) fun v3 =>
 K181_11 m call h8 t7 t8 v3 t29 t30
theorem K181_10_eq (m : Nat) (call : CallF) (h8 : AV → AV → AV → AV → AV → Kt) : compF c181_10 (C m) call (fun e => h8 (e 7) (e 8) (e 10) (e 29) (e 30)) (exitF 0 (fun e => K181_6 m call (e 8) (e 10)) nx) (Z181 m) = (fun e => K181_10 m call h8 (e 7) (e 8) (e 10) (e 29) (e 30)) := by
  refine Eq.trans (b := (compF (pS1 (pB (pS1 c181_10))) (C m) call (compF (pS2 (pB (pS1 c181_10))) (C m) call (compF c181_11 (C m) call (fun e => h8 (e 7) (e 8) (e 10) (e 29) (e 30)) (exitF 0 (fun e => K181_6 m call (e 8) (e 10)) nx) (Z181 m)) (exitF 1 (compF c181_11 (C m) call (fun e => h8 (e 7) (e 8) (e 10) (e 29) (e 30)) (exitF 0 (fun e => K181_6 m call (e 8) (e 10)) nx) (Z181 m)) (exitF 0 (fun e => K181_6 m call (e 8) (e 10)) nx)) (Z181 m)) (exitF 1 (compF c181_11 (C m) call (fun e => h8 (e 7) (e 8) (e 10) (e 29) (e 30)) (exitF 0 (fun e => K181_6 m call (e 8) (e 10)) nx) (Z181 m)) (exitF 0 (fun e => K181_6 m call (e 8) (e 10)) nx)) (Z181 m))) (by kernel_rfl) ?_
  rw [K181_11_eq m call h8 ]
  first | done | (show _ = _; kernel_rfl)
noncomputable def K181_9 (m : Nat) (call : CallF) (h8 : AV → AV → AV → AV → AV → Kt) (t7 t8 t10 t29 t30 t31 : AV) : Kt :=
 ifB t31
 ((K181_10 m call h8 t7 t8 t10 t29 t30))
 ((K181_6 m call t8 t10))
theorem K181_9_eq (m : Nat) (call : CallF) (h8 : AV → AV → AV → AV → AV → Kt) : compF c181_9 (C m) call (fun e => h8 (e 7) (e 8) (e 10) (e 29) (e 30)) (exitF 0 (fun e => K181_6 m call (e 8) (e 10)) nx) (Z181 m) = (fun e => K181_9 m call h8 (e 7) (e 8) (e 10) (e 29) (e 30) (e 31)) := by
  refine Eq.trans (b := (fun e => ifB (e 31) ((compF c181_10 (C m) call (fun e => h8 (e 7) (e 8) (e 10) (e 29) (e 30)) (exitF 0 (fun e => K181_6 m call (e 8) (e 10)) nx) (Z181 m)) e) ((fun e => K181_6 m call (e 8) (e 10)) e))) (by kernel_rfl) ?_
  rw [K181_10_eq m call h8 ]
  first | done | (show _ = _; kernel_rfl)
noncomputable def L181_8_b (m : Nat) (call : CallF) (h8 : AV → AV → AV → AV → AV → Kt) (t7 t8 t10 t29 t30 : AV) : Kt :=
 bnd (binO (C m) .lss 3 t30 t29) fun v0 =>
 K181_9 m call h8 t7 t8 t10 t29 t30 v0
noncomputable def L181_8 (m : Nat) (call : CallF) (n : Nat) : AV → AV → AV → AV → AV → Kt :=
 Nat.rec (motive := fun _ => AV → AV → AV → AV → AV → Kt) (fun t7 t8 t10 t29 t30 => noK) (fun _ ih => L181_8_b m call ih) n
theorem L181_8_b_eq (m : Nat) (call : CallF) (h8 : AV → AV → AV → AV → AV → Kt) : compF c181_8 (C m) call (fun e => h8 (e 7) (e 8) (e 10) (e 29) (e 30)) (exitF 0 (fun e => K181_6 m call (e 8) (e 10)) nx) (Z181 m) = fun e => L181_8_b m call h8 (e 7) (e 8) (e 10) (e 29) (e 30) := by
  refine Eq.trans (b := (compF (pS1 c181_8) (C m) call (compF c181_9 (C m) call (fun e => h8 (e 7) (e 8) (e 10) (e 29) (e 30)) (exitF 0 (fun e => K181_6 m call (e 8) (e 10)) nx) (Z181 m)) (exitF 0 (fun e => K181_6 m call (e 8) (e 10)) nx) (Z181 m))) (by kernel_rfl) ?_
  rw [K181_9_eq m call h8 ]
  first | done | (show _ = _; kernel_rfl)
theorem L181_8_eq (m : Nat) (call : CallF) (n : Nat) : (loopF (fun k => compF c181_8 (C m) call k (exitF 0 (fun e => K181_6 m call (e 8) (e 10)) nx) (Z181 m)) n) = (fun e => L181_8 m call n (e 7) (e 8) (e 10) (e 29) (e 30)) := by
  induction n with
  | zero => rfl
  | succ n ih =>
    show compF c181_8 (C m) call (loopF (fun k => compF c181_8 (C m) call k (exitF 0 (fun e => K181_6 m call (e 8) (e 10)) nx) (Z181 m)) n) (exitF 0 (fun e => K181_6 m call (e 8) (e 10)) nx) (Z181 m) = _
    rw [ih, L181_8_b_eq m call (L181_8 m call n)]
    rfl
theorem L181_8_succ (m : Nat) (call : CallF) (n : Nat) : L181_8 m call (n + 1) = L181_8_b m call (L181_8 m call n) := rfl
noncomputable def K181_7 (m : Nat) (call : CallF) (t7 t8 t10 t29 t30 : AV) : Kt :=
 L181_8 m call m t7 t8 t10 t29 t30
theorem K181_7_eq (m : Nat) (call : CallF) : compF c181_7 (C m) call (fun e => K181_6 m call (e 8) (e 10)) nx (Z181 m) = (fun e => K181_7 m call (e 7) (e 8) (e 10) (e 29) (e 30)) := by
  refine Eq.trans (b := (loopF (fun k => compF c181_8 (C m) call k (exitF 0 (fun e => K181_6 m call (e 8) (e 10)) nx) (Z181 m)) m)) (by kernel_rfl) ?_
  rw [L181_8_eq m call m]
  first | done | (show _ = _; kernel_rfl)
noncomputable def K181_5 (m : Nat) (call : CallF) (t7 t8 t10 : AV) : Kt :=
 bnd (bltO (C m) .len [9] [t7]) fun v0 =>
 K181_7 m call t7 t8 t10 v0 (I 0)
theorem K181_5_eq (m : Nat) (call : CallF) : compF c181_5 (C m) call (Z181 m) nx (Z181 m) = (fun e => K181_5 m call (e 7) (e 8) (e 10)) := by
  refine Eq.trans (b := (compF (pS1 (pS1 c181_5)) (C m) call (compF c181_7 (C m) call (compF c181_6 (C m) call (Z181 m) nx (Z181 m)) nx (Z181 m)) nx (Z181 m))) (by kernel_rfl) ?_
  rw [K181_6_eq m call , K181_7_eq m call ]
  first | done | (show _ = _; kernel_rfl)
noncomputable def K181_4 (m : Nat) (call : CallF) (t7 t8 : AV) : Kt :=
 K181_5 m call t7 t8 (I 0)
theorem K181_4_eq (m : Nat) (call : CallF) : compF c181_4 (C m) call (Z181 m) nx (Z181 m) = (fun e => K181_4 m call (e 7) (e 8)) := by
  refine Eq.trans (b := (compF (pS1 c181_4) (C m) call (compF c181_5 (C m) call (Z181 m) nx (Z181 m)) nx (Z181 m))) (by kernel_rfl) ?_
  rw [K181_5_eq m call ]
  first | done | (show _ = _; kernel_rfl)
noncomputable def K181_3 (m : Nat) (call : CallF) (t7 t8 t9 : AV) : Kt :=
 bnd (binO (C m) .neq 42 t9 (I 0)) fun v0 =>
 ifB v0
 ((retV (C m) [(none, (I 0)), (none, (S [])), (none, t9)]))
 ((K181_4 m call t7 t8))
theorem K181_3_eq (m : Nat) (call : CallF) : compF c181_3 (C m) call (Z181 m) nx (Z181 m) = (fun e => K181_3 m call (e 7) (e 8) (e 9)) := by
  refine Eq.trans (b := (compF (pS1 (pS1 c181_3)) (C m) call (fun e => ifB (e 26) ((compF (pS1 (pC1 (pS2 (pS1 c181_3)))) (C m) call (Z181 m) nx (Z181 m)) e) ((compF c181_4 (C m) call (Z181 m) nx (Z181 m)) e)) nx (Z181 m))) (by kernel_rfl) ?_
  rw [K181_4_eq m call ]
  first | done | (show _ = _; kernel_rfl)
noncomputable def K181_2 (m : Nat) (call : CallF) (t0 t1 : AV) : Kt :=
 bnd (calO (C m) call (fnV 193) [t0, t1]) fun v0 =>
 bnd (extO v0 0) fun v1 =>
 bnd (extO v0 1) fun v2 =>
 bnd (extO v0 2) fun v3 =>
 K181_3 m call v1 v2 v3
theorem K181_2_eq (m : Nat) (call : CallF) : compF c181_2 (C m) call (Z181 m) nx (Z181 m) = (fun e => K181_2 m call (e 0) (e 1)) := by
  refine Eq.trans (b := (compF (pS1 c181_2) (C m) call (compF c181_3 (C m) call (Z181 m) nx (Z181 m)) nx (Z181 m))) (by kernel_rfl) ?_
  rw [K181_3_eq m call ]
  first | done | (show _ = _; kernel_rfl)
noncomputable def K181_1 (m : Nat) (call : CallF) (t0 t1 : AV) : Kt :=
 bnd (binO (C m) .lss 3 t1 (I 1)) fun v0 =>
 bnd (gdO (wantV v0 false) (fun _ => .val t1)) fun v1 =>
 bnd (gdO (wantV v0 false) (binO (C m) .gtr 3 v1 (I 7))) fun v2 =>
 bnd (pickO v0 (B true) v2) fun v3 =>
 ifB v3
 ((retV (C m) [(none, (I 0)), (none, (S [])), (none, (I 1))]))
 ((K181_2 m call t0 t1))
theorem K181_1_eq (m : Nat) (call : CallF) : compF c181_1 (C m) call (Z181 m) nx (Z181 m) = (fun e => K181_1 m call (e 0) (e 1)) := by
  refine Eq.trans (b := (compF (pS1 (pS1 c181_1)) (C m) call (fun e => ifB (e 17) ((compF (pS1 (pC1 (pS2 (pS1 c181_1)))) (C m) call (Z181 m) nx (Z181 m)) e) ((compF c181_2 (C m) call (Z181 m) nx (Z181 m)) e)) nx (Z181 m))) (by kernel_rfl) ?_
  rw [K181_2_eq m call ]
  first | done | (show _ = _; kernel_rfl)
noncomputable def K181_0 (m : Nat) (call : CallF) (t0 t1 : AV) : Kt :=
 K181_1 m call t0 t1
theorem K181_0_eq (m : Nat) (call : CallF) : compF c181_0 (C m) call (Z181 m) nx (Z181 m) = (fun e => K181_0 m call (e 0) (e 1)) := by
  refine Eq.trans (b := (compF (pS1 c181_0) (C m) call (compF c181_1 (C m) call (Z181 m) nx (Z181 m)) nx (Z181 m))) (by kernel_rfl) ?_
  rw [K181_1_eq m call ]
  first | done | (show _ = _; kernel_rfl)
theorem F181_eq (m : Nat) (call : CallF) (t0 t1 : AV) : enterK (C m) call Tryz.f181 [t0, t1] = K181_0 m call t0 t1 := by
  refine Eq.trans (b := (compF c181_0 (C m) call (Z181 m) nx (Z181 m)) (argF [t0, t1])) (by kernel_rfl) ?_
  rw [K181_0_eq m call]
  first | done | rfl
/-! rillmeter/ether.tag -/
noncomputable def c209_0 : Code := (bodyOf Tryz.f209)
noncomputable def Z209 (m : Nat) := fun (e : Nat → AV) => retV (C m) (resE e Tryz.f209.results.toList)
noncomputable def K209_0 (m : Nat) (call : CallF) (t0 : AV) : Kt :=
 bnd (binO (C m) .eql 3 t0 (I 33024)) fun v0 =>
 bnd (gdO (wantV v0 false) (fun _ => .val t0)) fun v1 =>
 bnd (gdO (wantV v0 false) (binO (C m) .eql 3 v1 (I 34984))) fun v2 =>
 bnd (pickO v0 (B true) v2) fun v3 =>
 retV (C m) [(none, v3)]
theorem K209_0_eq (m : Nat) (call : CallF) : compF c209_0 (C m) call (Z209 m) nx (Z209 m) = (fun e => K209_0 m call (e 0)) := by
  refine Eq.trans (b := (compF (pS1 c209_0) (C m) call (compF (pS1 (pS2 c209_0)) (C m) call (Z209 m) nx (Z209 m)) nx (Z209 m))) (by kernel_rfl) ?_
  kernel_rfl
theorem F209_eq (m : Nat) (call : CallF) (t0 : AV) : enterK (C m) call Tryz.f209 [t0] = K209_0 m call t0 := by
  refine Eq.trans (b := (compF c209_0 (C m) call (Z209 m) nx (Z209 m)) (argF [t0])) (by kernel_rfl) ?_
  rw [K209_0_eq m call]
  first | done | rfl
/-! rillmeter/octet.Put -/
noncomputable def c94_0 : Code := (bodyOf Tryz.f94)
noncomputable def c94_1 : Code := (pS2 c94_0)
noncomputable def c94_2 : Code := (pS2 c94_1)
noncomputable def c94_3 : Code := (pS2 c94_2)
noncomputable def c94_4 : Code := (pS2 c94_3)
noncomputable def c94_5 : Code := (pS2 (pS1 c94_3))
noncomputable def c94_6 : Code := (pL (pB c94_5))
noncomputable def c94_7 : Code := (pS2 c94_6)
noncomputable def c94_8 : Code := (pS2 c94_7)
noncomputable def c94_9 : Code := (pS2 c94_8)
noncomputable def Z94 (m : Nat) := fun (e : Nat → AV) => retV (C m) (resE e Tryz.f94.results.toList)
noncomputable def K94_4 (m : Nat) (call : CallF) (t6 : AV) : Kt :=
 bnd (cvO (C m) 133 9 t6) fun v0 =>
 retV (C m) [(none, v0), (none, (I 0))]
theorem K94_4_eq (m : Nat) (call : CallF) : compF c94_4 (C m) call (Z94 m) nx (Z94 m) = (fun e => K94_4 m call (e 6)) := by
  refine Eq.trans (b := (compF (pS1 c94_4) (C m) call (Z94 m) nx (Z94 m))) (by kernel_rfl) ?_
  kernel_rfl
noncomputable def K94_9 (m : Nat) (call : CallF) (h6 : AV → AV → AV → AV → AV → Kt) (t0 t1 t6 t28 t29 : AV) : Kt :=
 bnd (binO (C m) .add 3 t29 (I 1)) fun v0 =>
 h6 t0 t1 t6 t28 v0
theorem K94_9_eq (m : Nat) (call : CallF) (h6 : AV → AV → AV → AV → AV → Kt) : compF c94_9 (C m) call (fun e => h6 (e 0) (e 1) (e 6) (e 28) (e 29)) (exitF 0 (fun e => K94_4 m call (e 6)) nx) (Z94 m) = (fun e => K94_9 m call h6 (e 0) (e 1) (e 6) (e 28) (e 29)) := by
  kernel_rfl
noncomputable def K94_8 (m : Nat) (call : CallF) (h6 : AV → AV → AV → AV → AV → Kt) (t0 t1 t6 t28 t29 : AV) : Kt :=
 bnd (binO (C m) .sub 3 t1 (I 1)) fun v0 =>
 bnd (binO (C m) .sub 3 v0 t29) fun v1 =>
 bnd (binO (C m) .mul 3 (I 8) v1) fun v2 =>
 bnd (binO (C m) .shr 3 t0 v2) fun v3 =>
 bnd (cvO (C m) 3 5 v3) fun v4 =>
 bnd (iadO (C m) 133 t6 t29) fun v5 =>
 bnd (stO (C m) 5 v5 v4) fun _ =>
 K94_9 m call h6 t0 t1 t6 t28 t29
theorem K94_8_eq (m : Nat) (call : CallF) (h6 : AV → AV → AV → AV → AV → Kt) : compF c94_8 (C m) call (fun e => h6 (e 0) (e 1) (e 6) (e 28) (e 29)) (exitF 0 (fun e => K94_4 m call (e 6)) nx) (Z94 m) = (fun e => K94_8 m call h6 (e 0) (e 1) (e 6) (e 28) (e 29)) := by
  refine Eq.trans (b := (compF (pS1 (pB (pS1 c94_8))) (C m) call (compF (pS2 (pB (pS1 c94_8))) (C m) call (compF c94_9 (C m) call (fun e => h6 (e 0) (e 1) (e 6) (e 28) (e 29)) (exitF 0 (fun e => K94_4 m call (e 6)) nx) (Z94 m)) (exitF 1 (compF c94_9 (C m) call (fun e => h6 (e 0) (e 1) (e 6) (e 28) (e 29)) (exitF 0 (fun e => K94_4 m call (e 6)) nx) (Z94 m)) (exitF 0 (fun e => K94_4 m call (e 6)) nx)) (Z94 m)) (exitF 1 (compF c94_9 (C m) call (fun e => h6 (e 0) (e 1) (e 6) (e 28) (e 29)) (exitF 0 (fun e => K94_4 m call (e 6)) nx) (Z94 m)) (exitF 0 (fun e => K94_4 m call (e 6)) nx)) (Z94 m))) (by kernel_rfl) ?_
  rw [K94_9_eq m call h6 ]
  first | done | (show _ = _; kernel_rfl)
noncomputable def K94_7 (m : Nat) (call : CallF) (h6 : AV → AV → AV → AV → AV → Kt) (t0 t1 t6 t28 t29 t30 : AV) : Kt :=
 ifB t30
 ((K94_8 m call h6 t0 t1 t6 t28 t29))
 ((K94_4 m call t6))
theorem K94_7_eq (m : Nat) (call : CallF) (h6 : AV → AV → AV → AV → AV → Kt) : compF c94_7 (C m) call (fun e => h6 (e 0) (e 1) (e 6) (e 28) (e 29)) (exitF 0 (fun e => K94_4 m call (e 6)) nx) (Z94 m) = (fun e => K94_7 m call h6 (e 0) (e 1) (e 6) (e 28) (e 29) (e 30)) := by
  refine Eq.trans (b := (fun e => ifB (e 30) ((compF c94_8 (C m) call (fun e => h6 (e 0) (e 1) (e 6) (e 28) (e 29)) (exitF 0 (fun e => K94_4 m call (e 6)) nx) (Z94 m)) e) ((fun e => K94_4 m call (e 6)) e))) (by kernel_rfl) ?_
  rw [K94_8_eq m call h6 ]
  first | done | (show _ = _; kernel_rfl)
noncomputable def L94_6_b (m : Nat) (call : CallF) (h6 : AV → AV → AV → AV → AV → Kt) (t0 t1 t6 t28 t29 : AV) : Kt :=
 bnd (binO (C m) .lss 3 t29 t28) fun v0 =>
 K94_7 m call h6 t0 t1 t6 t28 t29 v0
noncomputable def L94_6 (m : Nat) (call : CallF) (n : Nat) : AV → AV → AV → AV → AV → Kt :=
 Nat.rec (motive := fun _ => AV → AV → AV → AV → AV → Kt) (fun t0 t1 t6 t28 t29 => noK) (fun _ ih => L94_6_b m call ih) n
theorem L94_6_b_eq (m : Nat) (call : CallF) (h6 : AV → AV → AV → AV → AV → Kt) : compF c94_6 (C m) call (fun e => h6 (e 0) (e 1) (e 6) (e 28) (e 29)) (exitF 0 (fun e => K94_4 m call (e 6)) nx) (Z94 m) = fun e => L94_6_b m call h6 (e 0) (e 1) (e 6) (e 28) (e 29) := by
  refine Eq.trans (b := (compF (pS1 c94_6) (C m) call (compF c94_7 (C m) call (fun e => h6 (e 0) (e 1) (e 6) (e 28) (e 29)) (exitF 0 (fun e => K94_4 m call (e 6)) nx) (Z94 m)) (exitF 0 (fun e => K94_4 m call (e 6)) nx) (Z94 m))) (by kernel_rfl) ?_
  rw [K94_7_eq m call h6 ]
  first | done | (show _ = _; kernel_rfl)
theorem L94_6_eq (m : Nat) (call : CallF) (n : Nat) : (loopF (fun k => compF c94_6 (C m) call k (exitF 0 (fun e => K94_4 m call (e 6)) nx) (Z94 m)) n) = (fun e => L94_6 m call n (e 0) (e 1) (e 6) (e 28) (e 29)) := by
  induction n with
  | zero => rfl
  | succ n ih =>
    show compF c94_6 (C m) call (loopF (fun k => compF c94_6 (C m) call k (exitF 0 (fun e => K94_4 m call (e 6)) nx) (Z94 m)) n) (exitF 0 (fun e => K94_4 m call (e 6)) nx) (Z94 m) = _
    rw [ih, L94_6_b_eq m call (L94_6 m call n)]
    rfl
theorem L94_6_succ (m : Nat) (call : CallF) (n : Nat) : L94_6 m call (n + 1) = L94_6_b m call (L94_6 m call n) := rfl
noncomputable def K94_5 (m : Nat) (call : CallF) (t0 t1 t6 t28 t29 : AV) : Kt :=
 L94_6 m call m t0 t1 t6 t28 t29
theorem K94_5_eq (m : Nat) (call : CallF) : compF c94_5 (C m) call (fun e => K94_4 m call (e 6)) nx (Z94 m) = (fun e => K94_5 m call (e 0) (e 1) (e 6) (e 28) (e 29)) := by
  refine Eq.trans (b := (loopF (fun k => compF c94_6 (C m) call k (exitF 0 (fun e => K94_4 m call (e 6)) nx) (Z94 m)) m)) (by kernel_rfl) ?_
  rw [L94_6_eq m call m]
  first | done | (show _ = _; kernel_rfl)
noncomputable def K94_3 (m : Nat) (call : CallF) (t0 t1 t6 : AV) : Kt :=
 bnd (bltO (C m) .len [133] [t6]) fun v0 =>
 K94_5 m call t0 t1 t6 v0 (I 0)
theorem K94_3_eq (m : Nat) (call : CallF) : compF c94_3 (C m) call (Z94 m) nx (Z94 m) = (fun e => K94_3 m call (e 0) (e 1) (e 6)) := by
  refine Eq.trans (b := (compF (pS1 (pS1 c94_3)) (C m) call (compF c94_5 (C m) call (compF c94_4 (C m) call (Z94 m) nx (Z94 m)) nx (Z94 m)) nx (Z94 m))) (by kernel_rfl) ?_
  rw [K94_4_eq m call , K94_5_eq m call ]
  first | done | (show _ = _; kernel_rfl)
noncomputable def K94_2 (m : Nat) (call : CallF) (t0 t1 : AV) : Kt :=
 bnd (mksO (C m) 133 t1 t1) fun v0 =>
 K94_3 m call t0 t1 v0
theorem K94_2_eq (m : Nat) (call : CallF) : compF c94_2 (C m) call (Z94 m) nx (Z94 m) = (fun e => K94_2 m call (e 0) (e 1)) := by
  refine Eq.trans (b := (compF (pS1 c94_2) (C m) call (compF c94_3 (C m) call (Z94 m) nx (Z94 m)) nx (Z94 m))) (by kernel_rfl) ?_
  rw [K94_3_eq m call ]
  first | done | (show _ = _; kernel_rfl)
noncomputable def K94_1 (m : Nat) (call : CallF) (t0 t1 : AV) : Kt :=
 bnd (binO (C m) .lss 3 t1 (I 1)) fun v0 =>
 bnd (gdO (wantV v0 false) (fun _ => .val t1)) fun v1 =>
 bnd (gdO (wantV v0 false) (binO (C m) .gtr 3 v1 (I 7))) fun v2 =>
 bnd (pickO v0 (B true) v2) fun v3 =>
 bnd (gdO (wantV v3 false) (fun _ => .val t0)) fun v4 =>
 bnd (gdO (wantV v3 false) (binO (C m) .lss 3 v4 (I 0))) fun v5 =>
 bnd (pickO v3 (B true) v5) fun v6 =>
 bnd (gdO (wantV v6 false) (fun _ => .val t0)) fun v7 =>
 bnd (gdO (wantV v6 false) (fun _ => .val t1)) fun v8 =>
 bnd (gdO (wantV v6 false) (binO (C m) .mul 3 (I 8) v8)) fun v9 =>
 bnd (gdO (wantV v6 false) (binO (C m) .shr 3 v7 v9)) fun v10 =>
 bnd (gdO (wantV v6 false) (binO (C m) .neq 3 v10 (I 0))) fun v11 =>
 bnd (pickO v6 (B true) v11) fun v12 =>
 ifB v12
 ((retV (C m) [(none, (S [])), (none, (I 1))]))
 ((K94_2 m call t0 t1))
theorem K94_1_eq (m : Nat) (call : CallF) : compF c94_1 (C m) call (Z94 m) nx (Z94 m) = (fun e => K94_1 m call (e 0) (e 1)) := by
  refine Eq.trans (b := (compF (pS1 (pS1 c94_1)) (C m) call (fun e => ifB (e 24) ((compF (pS1 (pC1 (pS2 (pS1 c94_1)))) (C m) call (Z94 m) nx (Z94 m)) e) ((compF c94_2 (C m) call (Z94 m) nx (Z94 m)) e)) nx (Z94 m))) (by kernel_rfl) ?_
  rw [K94_2_eq m call ]
  first | done | (show _ = _; kernel_rfl)
noncomputable def K94_0 (m : Nat) (call : CallF) (t0 t1 : AV) : Kt :=
 K94_1 m call t0 t1
theorem K94_0_eq (m : Nat) (call : CallF) : compF c94_0 (C m) call (Z94 m) nx (Z94 m) = (fun e => K94_0 m call (e 0) (e 1)) := by
  refine Eq.trans (b := (compF (pS1 c94_0) (C m) call (compF c94_1 (C m) call (Z94 m) nx (Z94 m)) nx (Z94 m))) (by kernel_rfl) ?_
  rw [K94_1_eq m call ]
  first | done | (show _ = _; kernel_rfl)
theorem F94_eq (m : Nat) (call : CallF) (t0 t1 : AV) : enterK (C m) call Tryz.f94 [t0, t1] = K94_0 m call t0 t1 := by
  refine Eq.trans (b := (compF c94_0 (C m) call (Z94 m) nx (Z94 m)) (argF [t0, t1])) (by kernel_rfl) ?_
  rw [K94_0_eq m call]
  first | done | rfl
/-! rillmeter/flow.Key -/
noncomputable def c111_0 : Code := (bodyOf Tryz.f111)
noncomputable def c111_1 : Code := (pS2 c111_0)
noncomputable def c111_2 : Code := (pS2 c111_1)
noncomputable def c111_3 : Code := (pS2 c111_2)
noncomputable def Z111 (m : Nat) := fun (e : Nat → AV) => retV (C m) (resE e Tryz.f111.results.toList)
noncomputable def K111_3 (m : Nat) (call : CallF) (t1 t4 t5 t6 t7 : AV) : Kt :=
 bnd (fadO (C m) 276 t1 4) fun v0 =>
 bnd (ldO (C m) 3 v0) fun v1 =>
 bnd (calO (C m) call (fnV 94) [v1, (I 2)]) fun v2 =>
 bnd (extO v2 0) fun v3 =>
 bnd (extO v2 1) fun v4 =>
 bnd (fadO (C m) 276 t1 0) fun v5 =>
 bnd (ldO (C m) 9 v5) fun v6 =>
 bnd (bltO (C m) .len [9] [v6]) fun v7 =>
 bnd (binO (C m) .neq 3 v7 (I 16)) fun v8 =>
 bnd (gdO (wantV v8 false) (fadO (C m) 276 t1 1)) fun v9 =>
 bnd (gdO (wantV v8 false) (ldO (C m) 9 v9)) fun v10 =>
 bnd (gdO (wantV v8 false) (bltO (C m) .len [9] [v10])) fun v11 =>
 bnd (gdO (wantV v8 false) (binO (C m) .neq 3 v11 (I 16))) fun v12 =>
 bnd (pickO v8 (B true) v12) fun v13 =>
 bnd (gdO (wantV v13 false) (fun _ => .val t5)) fun v14 =>
 bnd (gdO (wantV v13 false) (fun _ => .val t7)) fun v15 =>
 bnd (gdO (wantV v13 false) (fun _ => .val v4)) fun v16 =>
 bnd (gdO (wantV v13 false) (bltO (C m) .max [42, 42, 42] [v14, v15, v16])) fun v17 =>
 bnd (gdO (wantV v13 false) (binO (C m) .neq 42 v17 (I 0))) fun v18 =>
 bnd (pickO v13 (B true) v18) fun v19 =>
 ifB v19
 ((retV (C m) [(none, (S [])), (none, (I 1))]))
 ((bnd (fadO (C m) 276 t1 0) fun v20 =>
 bnd (ldO (C m) 9 v20) fun v21 =>
 bnd (fadO (C m) 276 t1 1) fun v22 =>
 bnd (ldO (C m) 9 v22) fun v23 =>
 bnd (binO (C m) .add 9 v21 v23) fun v24 =>
 bnd (binO (C m) .add 9 v24 t4) fun v25 =>
 bnd (binO (C m) .add 9 v25 t6) fun v26 =>
 bnd (binO (C m) .add 9 v26 v3) fun v27 =>
 retV (C m) [(none, v27), (none, (I 0))]))
theorem K111_3_eq (m : Nat) (call : CallF) : compF c111_3 (C m) call (Z111 m) nx (Z111 m) = (fun e => K111_3 m call (e 1) (e 4) (e 5) (e 6) (e 7)) := by
  refine Eq.trans (b := (compF (pS1 c111_3) (C m) call (compF (pS1 (pS1 (pS2 c111_3))) (C m) call (fun e => ifB (e 44) ((compF (pS1 (pC1 (pS2 (pS1 (pS2 c111_3))))) (C m) call (Z111 m) nx (Z111 m)) e) ((compF (pS1 (pS2 (pS2 c111_3))) (C m) call (Z111 m) nx (Z111 m)) e)) nx (Z111 m)) nx (Z111 m))) (by kernel_rfl) ?_
  kernel_rfl
noncomputable def K111_2 (m : Nat) (call : CallF) (t1 t4 t5 : AV) : Kt :=
 bnd (fadO (C m) 276 t1 3) fun v0 =>
 bnd (ldO (C m) 3 v0) fun v1 =>
 bnd (calO (C m) call (fnV 94) [v1, (I 2)]) fun v2 =>
 bnd (extO v2 0) fun v3 =>
 bnd (extO v2 1) fun v4 =>
 K111_3 m call t1 t4 t5 v3 v4
theorem K111_2_eq (m : Nat) (call : CallF) : compF c111_2 (C m) call (Z111 m) nx (Z111 m) = (fun e => K111_2 m call (e 1) (e 4) (e 5)) := by
  refine Eq.trans (b := (compF (pS1 c111_2) (C m) call (compF c111_3 (C m) call (Z111 m) nx (Z111 m)) nx (Z111 m))) (by kernel_rfl) ?_
  rw [K111_3_eq m call ]
  first | done | (show _ = _; kernel_rfl)
noncomputable def K111_1 (m : Nat) (call : CallF) (t1 : AV) : Kt :=
 bnd (fadO (C m) 276 t1 2) fun v0 =>
 bnd (ldO (C m) 3 v0) fun v1 =>
 bnd (calO (C m) call (fnV 94) [v1, (I 1)]) fun v2 =>
 bnd (extO v2 0) fun v3 =>
 bnd (extO v2 1) fun v4 =>
 K111_2 m call t1 v3 v4
theorem K111_1_eq (m : Nat) (call : CallF) : compF c111_1 (C m) call (Z111 m) nx (Z111 m) = (fun e => K111_1 m call (e 1)) := by
  refine Eq.trans (b := (compF (pS1 c111_1) (C m) call (compF c111_2 (C m) call (Z111 m) nx (Z111 m)) nx (Z111 m))) (by kernel_rfl) ?_
  rw [K111_2_eq m call ]
  first | done | (show _ = _; kernel_rfl)
noncomputable def K111_0 (m : Nat) (call : CallF) (t0 : AV) : Kt :=
 bnd (boxO 276 t0) fun v0 =>
 K111_1 m call v0
theorem K111_0_eq (m : Nat) (call : CallF) : compF c111_0 (C m) call (Z111 m) nx (Z111 m) = (fun e => K111_0 m call (e 0)) := by
  refine Eq.trans (b := (compF (pS1 c111_0) (C m) call (compF c111_1 (C m) call (Z111 m) nx (Z111 m)) nx (Z111 m))) (by kernel_rfl) ?_
  rw [K111_1_eq m call ]
  first | done | (show _ = _; kernel_rfl)
theorem F111_eq (m : Nat) (call : CallF) (t0 : AV) : enterK (C m) call Tryz.f111 [t0] = K111_0 m call t0 := by
  refine Eq.trans (b := (compF c111_0 (C m) call (Z111 m) nx (Z111 m)) (argF [t0])) (by kernel_rfl) ?_
  rw [K111_0_eq m call]
  first | done | rfl
end Go.Proofs.YtnoieleoklpciaaGreatDoor
