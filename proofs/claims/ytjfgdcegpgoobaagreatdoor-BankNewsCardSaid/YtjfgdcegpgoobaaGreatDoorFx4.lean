/- Functions of the program as plain functions over the interpreter's words, and the theorems that they are what the interpreter makes of the code. -/
import Derived.Test.YtjfgdcegpgoobaaGreatDoorCx
set_option linter.unusedVariables false
namespace Go.Proofs.YtjfgdcegpgoobaaGreatDoor
open Go.Run
set_option maxRecDepth 100000
open Go
variable (m:Nat) (c:Qd)
noncomputable def c5_0:Code:=(Qw Tryz.f5)
noncomputable def c5_1:Code:=(pS2 c5_0)
noncomputable def c5_2:Code:=(pS2 c5_1)
noncomputable def c5_3:Code:=(pS2 c5_2)
noncomputable def c5_4:Code:=(pS2 c5_3)
noncomputable def Z5 (m:Nat):=fun (e:Nat→AV)=>Qo (C m) (Xh e Tryz.f5.results.toList)
noncomputable def D5 (m:Nat) (c:Qd) (p:Code) (k:TE→Kt) (x:Nat→TE→Kt):=Q2 p (C m) c k x (Z5 m)
noncomputable def K5_4 (m:Nat) (c:Qd) (t1 t3 t4 t5:AV):Kt:=
 bnd (Qh (C m) 24 t1 14) fun v0=>
 bnd (ldO (C m) 3 v0) fun v1=>
 bnd (Qy (C m) c (fnV 17) [v1,(I 1),(I 7)]) fun v2=>
 bnd (gdO (Qc v2 true) (Qh (C m) 24 t1 15)) fun v3=>
 bnd (gdO (Qc v2 true) (ldO (C m) 3 v3)) fun v4=>
 bnd (gdO (Qc v2 true) (Qy (C m) c (fnV 17) [v4,(I 1),(I 256)])) fun v5=>
 bnd (Qm v2 v5 (B false)) fun v6=>
 bnd (gdO (Qc v6 true) (Qh (C m) 24 t1 16)) fun v7=>
 bnd (gdO (Qc v6 true) (ldO (C m) 3 v7)) fun v8=>
 bnd (gdO (Qc v6 true) (Qy (C m) c (fnV 17) [v8,(I 1),(I 16)])) fun v9=>
 bnd (Qm v6 v9 (B false)) fun v10=>
 bnd (gdO (Qc v10 true) (Qh (C m) 24 t1 17)) fun v11=>
 bnd (gdO (Qc v10 true) (ldO (C m) 3 v11)) fun v12=>
 bnd (gdO (Qc v10 true) (Qy (C m) c (fnV 17) [v12,(I 1),(I 256)])) fun v13=>
 bnd (Qm v10 v13 (B false)) fun v14=>
 bnd (unO .not t3) fun v15=>
 bnd (gdO (Qc v15 false) (fun _=>.val t4)) fun v16=>
 bnd (gdO (Qc v15 false) (unO .not v16)) fun v17=>
 bnd (Qm v15 (B true) v17) fun v18=>
 bnd (gdO (Qc v18 false) (fun _=>.val t5)) fun v19=>
 bnd (gdO (Qc v18 false) (unO .not v19)) fun v20=>
 bnd (Qm v18 (B true) v20) fun v21=>
 bnd (gdO (Qc v21 false) (fun _=>.val v14)) fun v22=>
 bnd (gdO (Qc v21 false) (unO .not v22)) fun v23=>
 bnd (Qm v21 (B true) v23) fun v24=>
 ifB v24
 ((Qo (C m) [(none,(B false))]))
 ((bnd (Qh (C m) 24 t1 8) fun v25=>
 bnd (ldO (C m) 3 v25) fun v26=>
 bnd (Qh (C m) 24 t1 9) fun v27=>
 bnd (ldO (C m) 3 v27) fun v28=>
 bnd (Qi (C m) .mul 3 v26 v28) fun v29=>
 bnd (Qi (C m) .leq 3 v29 (I 32)) fun v30=>
 bnd (gdO (Qc v30 true) (Qh (C m) 24 t1 1)) fun v31=>
 bnd (gdO (Qc v30 true) (ldO (C m) 3 v31)) fun v32=>
 bnd (gdO (Qc v30 true) (Qh (C m) 24 t1 2)) fun v33=>
 bnd (gdO (Qc v30 true) (ldO (C m) 3 v33)) fun v34=>
 bnd (gdO (Qc v30 true) (Qi (C m) .mul 3 v32 v34)) fun v35=>
 bnd (gdO (Qc v30 true) (Qi (C m) .leq 3 v35 (I 256))) fun v36=>
 bnd (Qm v30 v36 (B false)) fun v37=>
 bnd (gdO (Qc v37 true) (Qh (C m) 24 t1 4)) fun v38=>
 bnd (gdO (Qc v37 true) (ldO (C m) 3 v38)) fun v39=>
 bnd (gdO (Qc v37 true) (Qh (C m) 24 t1 5)) fun v40=>
 bnd (gdO (Qc v37 true) (ldO (C m) 3 v40)) fun v41=>
 bnd (gdO (Qc v37 true) (Qi (C m) .mul 3 v39 v41)) fun v42=>
 bnd (gdO (Qc v37 true) (Qi (C m) .leq 3 v42 (I 512))) fun v43=>
 bnd (Qm v37 v43 (B false)) fun v44=>
 bnd (gdO (Qc v44 true) (Qh (C m) 24 t1 10)) fun v45=>
 bnd (gdO (Qc v44 true) (ldO (C m) 3 v45)) fun v46=>
 bnd (gdO (Qc v44 true) (Qh (C m) 24 t1 11)) fun v47=>
 bnd (gdO (Qc v44 true) (ldO (C m) 3 v47)) fun v48=>
 bnd (gdO (Qc v44 true) (Qi (C m) .mul 3 v46 v48)) fun v49=>
 bnd (gdO (Qc v44 true) (Qh (C m) 24 t1 12)) fun v50=>
 bnd (gdO (Qc v44 true) (ldO (C m) 3 v50)) fun v51=>
 bnd (gdO (Qc v44 true) (Qi (C m) .mul 3 v49 v51)) fun v52=>
 bnd (gdO (Qc v44 true) (Qi (C m) .leq 3 v52 (I 2048))) fun v53=>
 bnd (Qm v44 v53 (B false)) fun v54=>
 bnd (gdO (Qc v54 true) (Qh (C m) 24 t1 10)) fun v55=>
 bnd (gdO (Qc v54 true) (ldO (C m) 3 v55)) fun v56=>
 bnd (gdO (Qc v54 true) (Qh (C m) 24 t1 13)) fun v57=>
 bnd (gdO (Qc v54 true) (ldO (C m) 3 v57)) fun v58=>
 bnd (gdO (Qc v54 true) (Qi (C m) .mul 3 v56 v58)) fun v59=>
 bnd (gdO (Qc v54 true) (Qi (C m) .leq 3 v59 (I 512))) fun v60=>
 bnd (Qm v54 v60 (B false)) fun v61=>
 bnd (gdO (Qc v61 true) (Qh (C m) 24 t1 14)) fun v62=>
 bnd (gdO (Qc v61 true) (ldO (C m) 3 v62)) fun v63=>
 bnd (gdO (Qc v61 true) (Qh (C m) 24 t1 15)) fun v64=>
 bnd (gdO (Qc v61 true) (ldO (C m) 3 v64)) fun v65=>
 bnd (gdO (Qc v61 true) (Qi (C m) .mul 3 v63 v65)) fun v66=>
 bnd (gdO (Qc v61 true) (Qh (C m) 24 t1 16)) fun v67=>
 bnd (gdO (Qc v61 true) (ldO (C m) 3 v67)) fun v68=>
 bnd (gdO (Qc v61 true) (Qi (C m) .mul 3 v66 v68)) fun v69=>
 bnd (gdO (Qc v61 true) (Qh (C m) 24 t1 17)) fun v70=>
 bnd (gdO (Qc v61 true) (ldO (C m) 3 v70)) fun v71=>
 bnd (gdO (Qc v61 true) (Qi (C m) .mul 3 v69 v71)) fun v72=>
 bnd (gdO (Qc v61 true) (Qi (C m) .leq 3 v72 (I 4096))) fun v73=>
 bnd (Qm v61 v73 (B false)) fun v74=>
 Qo (C m) [(none,v74)]))
theorem K5_4_eq:D5 m c c5_4 (Z5 m) nx = (a4 (K5_4 m c) 1 3 4 5):=by
  refine Tq (D5 m c (pS1 c5_4) (D5 m c (pS1 (pS1 (pS2 c5_4))) (fun e=>ifB (e 104) ((D5 m c (pS1 (pC1 (pS2 (pS1 (pS2 c5_4))))) (Z5 m) nx) e) ((D5 m c (pS1 (pS2 (pS2 c5_4))) (D5 m c (pS1 (pS2 (pS2 (pS2 c5_4)))) (Z5 m) nx) nx) e)) nx) nx) (by kernel_rfl) ?_
  kernel_rfl
noncomputable def K5_3 (m:Nat) (c:Qd) (t1 t3 t4:AV):Kt:=
 bnd (Qh (C m) 24 t1 10) fun v0=>
 bnd (ldO (C m) 3 v0) fun v1=>
 bnd (Qy (C m) c (fnV 17) [v1,(I 1),(I 16)]) fun v2=>
 bnd (gdO (Qc v2 true) (Qh (C m) 24 t1 11)) fun v3=>
 bnd (gdO (Qc v2 true) (ldO (C m) 3 v3)) fun v4=>
 bnd (gdO (Qc v2 true) (Qy (C m) c (fnV 17) [v4,(I 1),(I 7)])) fun v5=>
 bnd (Qm v2 v5 (B false)) fun v6=>
 bnd (gdO (Qc v6 true) (Qh (C m) 24 t1 11)) fun v7=>
 bnd (gdO (Qc v6 true) (ldO (C m) 3 v7)) fun v8=>
 bnd (gdO (Qc v6 true) (Qi (C m) .rem 3 v8 (I 2))) fun v9=>
 bnd (gdO (Qc v6 true) (Qi (C m) .eql 3 v9 (I 1))) fun v10=>
 bnd (Qm v6 v10 (B false)) fun v11=>
 bnd (gdO (Qc v11 true) (Qh (C m) 24 t1 12)) fun v12=>
 bnd (gdO (Qc v11 true) (ldO (C m) 3 v12)) fun v13=>
 bnd (gdO (Qc v11 true) (Qy (C m) c (fnV 17) [v13,(I 1),(I 256)])) fun v14=>
 bnd (Qm v11 v14 (B false)) fun v15=>
 bnd (gdO (Qc v15 true) (Qh (C m) 24 t1 13)) fun v16=>
 bnd (gdO (Qc v15 true) (ldO (C m) 3 v16)) fun v17=>
 bnd (gdO (Qc v15 true) (Qy (C m) c (fnV 17) [v17,(I 1),(I 64)])) fun v18=>
 bnd (Qm v15 v18 (B false)) fun v19=>
 K5_4 m c t1 t3 t4 v19
theorem K5_3_eq:D5 m c c5_3 (Z5 m) nx = (a3 (K5_3 m c) 1 3 4):=by
  refine Tq (D5 m c (pS1 c5_3) (D5 m c c5_4 (Z5 m) nx) nx) (by kernel_rfl) ?_
  rw [K5_4_eq m c ]
  kernel_rfl
noncomputable def K5_2 (m:Nat) (c:Qd) (t1 t3:AV):Kt:=
 bnd (Qh (C m) 24 t1 6) fun v0=>
 bnd (ldO (C m) 3 v0) fun v1=>
 bnd (Qy (C m) c (fnV 17) [v1,(I 1),(I 256)]) fun v2=>
 bnd (gdO (Qc v2 true) (Qh (C m) 24 t1 7)) fun v3=>
 bnd (gdO (Qc v2 true) (ldO (C m) 3 v3)) fun v4=>
 bnd (gdO (Qc v2 true) (Qy (C m) c (fnV 17) [v4,(I 1),(I 7)])) fun v5=>
 bnd (Qm v2 v5 (B false)) fun v6=>
 bnd (gdO (Qc v6 true) (Qh (C m) 24 t1 8)) fun v7=>
 bnd (gdO (Qc v6 true) (ldO (C m) 3 v7)) fun v8=>
 bnd (gdO (Qc v6 true) (Qy (C m) c (fnV 17) [v8,(I 1),(I 7)])) fun v9=>
 bnd (Qm v6 v9 (B false)) fun v10=>
 bnd (gdO (Qc v10 true) (Qh (C m) 24 t1 9)) fun v11=>
 bnd (gdO (Qc v10 true) (ldO (C m) 3 v11)) fun v12=>
 bnd (gdO (Qc v10 true) (Qy (C m) c (fnV 17) [v12,(I 1),(I 256)])) fun v13=>
 bnd (Qm v10 v13 (B false)) fun v14=>
 K5_3 m c t1 t3 v14
theorem K5_2_eq:D5 m c c5_2 (Z5 m) nx = (a2 (K5_2 m c) 1 3):=by
  refine Tq (D5 m c (pS1 c5_2) (D5 m c c5_3 (Z5 m) nx) nx) (by kernel_rfl) ?_
  rw [K5_3_eq m c ]
  kernel_rfl
noncomputable def K5_1 (m:Nat) (c:Qd) (t1:AV):Kt:=
 bnd (Qh (C m) 24 t1 1) fun v0=>
 bnd (ldO (C m) 3 v0) fun v1=>
 bnd (Qy (C m) c (fnV 17) [v1,(I 1),(I 256)]) fun v2=>
 bnd (gdO (Qc v2 true) (Qh (C m) 24 t1 2)) fun v3=>
 bnd (gdO (Qc v2 true) (ldO (C m) 3 v3)) fun v4=>
 bnd (gdO (Qc v2 true) (Qy (C m) c (fnV 17) [v4,(I 1),(I 8)])) fun v5=>
 bnd (Qm v2 v5 (B false)) fun v6=>
 bnd (gdO (Qc v6 true) (Qh (C m) 24 t1 3)) fun v7=>
 bnd (gdO (Qc v6 true) (ldO (C m) 3 v7)) fun v8=>
 bnd (gdO (Qc v6 true) (Qy (C m) c (fnV 17) [v8,(I 1),(I 64)])) fun v9=>
 bnd (Qm v6 v9 (B false)) fun v10=>
 bnd (gdO (Qc v10 true) (Qh (C m) 24 t1 4)) fun v11=>
 bnd (gdO (Qc v10 true) (ldO (C m) 3 v11)) fun v12=>
 bnd (gdO (Qc v10 true) (Qy (C m) c (fnV 17) [v12,(I 1),(I 7)])) fun v13=>
 bnd (Qm v10 v13 (B false)) fun v14=>
 bnd (gdO (Qc v14 true) (Qh (C m) 24 t1 5)) fun v15=>
 bnd (gdO (Qc v14 true) (ldO (C m) 3 v15)) fun v16=>
 bnd (gdO (Qc v14 true) (Qy (C m) c (fnV 17) [v16,(I 1),(I 256)])) fun v17=>
 bnd (Qm v14 v17 (B false)) fun v18=>
 K5_2 m c t1 v18
theorem K5_1_eq:D5 m c c5_1 (Z5 m) nx = (a1 (K5_1 m c) 1):=by
  refine Tq (D5 m c (pS1 c5_1) (D5 m c c5_2 (Z5 m) nx) nx) (by kernel_rfl) ?_
  rw [K5_2_eq m c ]
  kernel_rfl
noncomputable def K5_0 (m:Nat) (c:Qd) (t0:AV):Kt:=
 bnd (Z2 24 t0) fun v0=>
 K5_1 m c v0
theorem K5_0_eq:D5 m c c5_0 (Z5 m) nx = (a1 (K5_0 m c) 0):=by
  refine Tq (D5 m c (pS1 c5_0) (D5 m c c5_1 (Z5 m) nx) nx) (by kernel_rfl) ?_
  rw [K5_1_eq m c ]
  kernel_rfl
theorem F5_eq (t0:AV):Qu (C m) c Tryz.f5 [t0] = K5_0 m c t0:=by
  refine Tq ((D5 m c c5_0 (Z5 m) nx) (Xl [t0])) (by kernel_rfl) ?_
  rw [K5_0_eq m c]
  rfl
noncomputable def c17_0:Code:=(Qw Tryz.f17)
noncomputable def Z17 (m:Nat):=fun (e:Nat→AV)=>Qo (C m) (Xh e Tryz.f17.results.toList)
noncomputable def D17 (m:Nat) (c:Qd) (p:Code) (k:TE→Kt) (x:Nat→TE→Kt):=Q2 p (C m) c k x (Z17 m)
noncomputable def K17_0 (m:Nat) (c:Qd) (t0 t1 t2:AV):Kt:=
 bnd (Qi (C m) .geq 3 t0 t1) fun v0=>
 bnd (gdO (Qc v0 true) (fun _=>.val t0)) fun v1=>
 bnd (gdO (Qc v0 true) (fun _=>.val t2)) fun v2=>
 bnd (gdO (Qc v0 true) (Qi (C m) .leq 3 v1 v2)) fun v3=>
 bnd (Qm v0 v3 (B false)) fun v4=>
 Qo (C m) [(none,v4)]
theorem K17_0_eq:D17 m c c17_0 (Z17 m) nx = (a3 (K17_0 m c) 0 1 2):=by
  refine Tq (D17 m c (pS1 c17_0) (D17 m c (pS1 (pS2 c17_0)) (Z17 m) nx) nx) (by kernel_rfl) ?_
  kernel_rfl
theorem F17_eq (t0 t1 t2:AV):Qu (C m) c Tryz.f17 [t0,t1,t2] = K17_0 m c t0 t1 t2:=by
  refine Tq ((D17 m c c17_0 (Z17 m) nx) (Xl [t0,t1,t2])) (by kernel_rfl) ?_
  rw [K17_0_eq m c]
  rfl
noncomputable def c6_0:Code:=(Qw Tryz.f6)
noncomputable def c6_1:Code:=(pS2 c6_0)
noncomputable def c6_2:Code:=(pS2 c6_1)
noncomputable def c6_3:Code:=(pS2 c6_2)
noncomputable def c6_4:Code:=(pS2 (pS1 c6_2))
noncomputable def c6_5:Code:=(pL (pB c6_4))
noncomputable def c6_6:Code:=(pS2 c6_5)
noncomputable def c6_7:Code:=(pS2 c6_6)
noncomputable def Z6 (m:Nat):=fun (e:Nat→AV)=>Qo (C m) (Xh e Tryz.f6.results.toList)
noncomputable def D6 (m:Nat) (c:Qd) (p:Code) (k:TE→Kt) (x:Nat→TE→Kt):=Q2 p (C m) c k x (Z6 m)
noncomputable def K6_3 (m:Nat) (c:Qd) (t2 t3:AV):Kt:=
 bnd (Qh (C m) 66 t2 4) fun v0=>
 bnd (ldO (C m) 54 v0) fun v1=>
 bnd (Qh (C m) 66 t3 4) fun v2=>
 bnd (ldO (C m) 54 v2) fun v3=>
 bnd (Qy (C m) c (fnV 18) [v1,v3]) fun v4=>
 bnd (gdO (Qc v4 true) (Qh (C m) 66 t2 5)) fun v5=>
 bnd (gdO (Qc v4 true) (ldO (C m) 58 v5)) fun v6=>
 bnd (gdO (Qc v4 true) (Qh (C m) 66 t3 5)) fun v7=>
 bnd (gdO (Qc v4 true) (ldO (C m) 58 v7)) fun v8=>
 bnd (gdO (Qc v4 true) (Qy (C m) c (fnV 19) [v6,v8])) fun v9=>
 bnd (Qm v4 v9 (B false)) fun v10=>
 bnd (gdO (Qc v10 true) (Qh (C m) 66 t2 6)) fun v11=>
 bnd (gdO (Qc v10 true) (ldO (C m) 61 v11)) fun v12=>
 bnd (gdO (Qc v10 true) (Qh (C m) 66 t3 6)) fun v13=>
 bnd (gdO (Qc v10 true) (ldO (C m) 61 v13)) fun v14=>
 bnd (gdO (Qc v10 true) (Qy (C m) c (fnV 20) [v12,v14])) fun v15=>
 bnd (Qm v10 v15 (B false)) fun v16=>
 bnd (gdO (Qc v16 true) (Qh (C m) 66 t2 7)) fun v17=>
 bnd (gdO (Qc v16 true) (ldO (C m) 64 v17)) fun v18=>
 bnd (gdO (Qc v16 true) (Qh (C m) 66 t3 7)) fun v19=>
 bnd (gdO (Qc v16 true) (ldO (C m) 64 v19)) fun v20=>
 bnd (gdO (Qc v16 true) (Qy (C m) c (fnV 21) [v18,v20])) fun v21=>
 bnd (Qm v16 v21 (B false)) fun v22=>
 Qo (C m) [(none,v22)]
theorem K6_3_eq:D6 m c c6_3 (Z6 m) nx = (a2 (K6_3 m c) 2 3):=by
  refine Tq (D6 m c (pS1 c6_3) (Z6 m) nx) (by kernel_rfl) ?_
  kernel_rfl
noncomputable def K6_7 (m:Nat) (c:Qd) (h5:AV→AV→AV→Kt) (t2 t3 t5:AV):Kt:=
 bnd (Qi (C m) .add 3 t5 (I 1)) fun v0=>
 h5 t2 t3 v0
theorem K6_7_eq (h5:AV→AV→AV→Kt):D6 m c c6_7 (a3 h5 2 3 5) (Qa 0 (a2 (K6_3 m c) 2 3) nx) = (a3 (K6_7 m c h5) 2 3 5):=by
  kernel_rfl
noncomputable def K6_6 (m:Nat) (c:Qd) (h5:AV→AV→AV→Kt) (t2 t3 t5:AV):Kt:=
 dIn fun sv0=>
 Qk (Qh (C m) 66 t2 3) fun v1=>
 Qr (ldO (C m) 25 v1) fun v2=>
 Qk (Q9 (C m) 25 v2 t5) fun v3=>
 Qr (ldO (C m) 3 v3) fun v4=>
 Qk (Qh (C m) 66 t3 3) fun v5=>
 Qr (ldO (C m) 25 v5) fun v6=>
 Qk (Q9 (C m) 25 v6 t5) fun v7=>
 Qr (ldO (C m) 3 v7) fun v8=>
 Qk (Qi (C m) .neq 3 v4 v8) fun v9=>
 ifB v9
 ((Qo (C m) [(none,(B false))]))
 ((K6_7 m c h5 t2 t3 t5))
theorem K6_6_eq (h5:AV→AV→AV→Kt):D6 m c c6_6 (a3 h5 2 3 5) (Qa 0 (a2 (K6_3 m c) 2 3) nx) = (a3 (K6_6 m c h5) 2 3 5):=by
  refine Tq (D6 m c (pS1 (pB (pS1 c6_6))) (fun e=>ifB (e 51) ((D6 m c (pS1 (pC1 (pS2 (pB (pS1 c6_6))))) (Z6 m) (Qa 1 (D6 m c c6_7 (a3 h5 2 3 5) (Qa 0 (a2 (K6_3 m c) 2 3) nx)) (Qa 0 (a2 (K6_3 m c) 2 3) nx))) e) ((D6 m c c6_7 (a3 h5 2 3 5) (Qa 0 (a2 (K6_3 m c) 2 3) nx)) e)) (Qa 1 (D6 m c c6_7 (a3 h5 2 3 5) (Qa 0 (a2 (K6_3 m c) 2 3) nx)) (Qa 0 (a2 (K6_3 m c) 2 3) nx))) (by kernel_rfl) ?_
  rw [K6_7_eq m c h5 ]
  kernel_rfl
noncomputable def L6_5_b (m:Nat) (c:Qd) (h5:AV→AV→AV→Kt) (t2 t3 t5:AV):Kt:=
 bnd (Qh (C m) 66 t2 3) fun v0=>
 bnd (ldO (C m) 25 v0) fun v1=>
 bnd (Qv (C m) .len [25] [v1]) fun v2=>
 bnd (Qi (C m) .lss 3 t5 v2) fun v3=>
 ifB v3
 ((K6_6 m c h5 t2 t3 t5))
 ((K6_3 m c t2 t3))
noncomputable def L6_5 (m:Nat) (c:Qd) (n:Nat):AV→AV→AV→Kt:=
 Nat.rec (motive:=fun _=>AV→AV→AV→Kt) (fun t2 t3 t5=>noK) (fun _ ih=>L6_5_b m c ih) n
theorem L6_5_b_eq (h5:AV→AV→AV→Kt):D6 m c c6_5 (a3 h5 2 3 5) (Qa 0 (a2 (K6_3 m c) 2 3) nx) = fun e=>L6_5_b m c h5 (e 2) (e 3) (e 5):=by
  refine Tq (D6 m c (pS1 (pS1 c6_5)) (fun e=>ifB (e 38) ((D6 m c c6_6 (a3 h5 2 3 5) (Qa 0 (a2 (K6_3 m c) 2 3) nx)) e) ((a2 (K6_3 m c) 2 3) e)) (Qa 0 (a2 (K6_3 m c) 2 3) nx)) (by kernel_rfl) ?_
  rw [K6_6_eq m c h5 ]
  kernel_rfl
theorem L6_5_eq (n:Nat):(Qn (fun k=>D6 m c c6_5 k (Qa 0 (a2 (K6_3 m c) 2 3) nx)) n) = (a3 (L6_5 m c n) 2 3 5):=by
  induction n with
  | zero=>rfl
  | succ n ih=>
    show D6 m c c6_5 (Qn (fun k=>D6 m c c6_5 k (Qa 0 (a2 (K6_3 m c) 2 3) nx)) n) (Qa 0 (a2 (K6_3 m c) 2 3) nx) = _
    rw [ih,L6_5_b_eq m c (L6_5 m c n)]
    rfl
theorem L6_5_succ (n:Nat):L6_5 m c (n + 1) = L6_5_b m c (L6_5 m c n):=rfl
noncomputable def K6_4 (m:Nat) (c:Qd) (t2 t3 t5:AV):Kt:=
 L6_5 m c m t2 t3 t5
theorem K6_4_eq:D6 m c c6_4 (a2 (K6_3 m c) 2 3) nx = (a3 (K6_4 m c) 2 3 5):=by
  refine Tq (Qn (fun k=>D6 m c c6_5 k (Qa 0 (a2 (K6_3 m c) 2 3) nx)) m) (by kernel_rfl) ?_
  rw [L6_5_eq m c m]
  kernel_rfl
noncomputable def K6_2 (m:Nat) (c:Qd) (t2 t3:AV):Kt:=
 K6_4 m c t2 t3 (I 0)
theorem K6_2_eq:D6 m c c6_2 (Z6 m) nx = (a2 (K6_2 m c) 2 3):=by
  refine Tq (D6 m c (pS1 (pS1 c6_2)) (D6 m c c6_4 (D6 m c c6_3 (Z6 m) nx) nx) nx) (by kernel_rfl) ?_
  rw [K6_3_eq m c ,K6_4_eq m c ]
  kernel_rfl
noncomputable def K6_1 (m:Nat) (c:Qd) (t2 t3:AV):Kt:=
 bnd (Qh (C m) 66 t2 0) fun v0=>
 bnd (ldO (C m) 24 v0) fun v1=>
 bnd (Qh (C m) 66 t3 0) fun v2=>
 bnd (ldO (C m) 24 v2) fun v3=>
 bnd (Qi (C m) .neq 24 v1 v3) fun v4=>
 bnd (gdO (Qc v4 false) (Qh (C m) 66 t2 1)) fun v5=>
 bnd (gdO (Qc v4 false) (ldO (C m) 3 v5)) fun v6=>
 bnd (gdO (Qc v4 false) (Qh (C m) 66 t3 1)) fun v7=>
 bnd (gdO (Qc v4 false) (ldO (C m) 3 v7)) fun v8=>
 bnd (gdO (Qc v4 false) (Qi (C m) .neq 3 v6 v8)) fun v9=>
 bnd (Qm v4 (B true) v9) fun v10=>
 bnd (gdO (Qc v10 false) (Qh (C m) 66 t2 2)) fun v11=>
 bnd (gdO (Qc v10 false) (ldO (C m) 3 v11)) fun v12=>
 bnd (gdO (Qc v10 false) (Qh (C m) 66 t3 2)) fun v13=>
 bnd (gdO (Qc v10 false) (ldO (C m) 3 v13)) fun v14=>
 bnd (gdO (Qc v10 false) (Qi (C m) .neq 3 v12 v14)) fun v15=>
 bnd (Qm v10 (B true) v15) fun v16=>
 bnd (gdO (Qc v16 false) (Qh (C m) 66 t2 3)) fun v17=>
 bnd (gdO (Qc v16 false) (ldO (C m) 25 v17)) fun v18=>
 bnd (gdO (Qc v16 false) (Qv (C m) .len [25] [v18])) fun v19=>
 bnd (gdO (Qc v16 false) (Qh (C m) 66 t3 3)) fun v20=>
 bnd (gdO (Qc v16 false) (ldO (C m) 25 v20)) fun v21=>
 bnd (gdO (Qc v16 false) (Qv (C m) .len [25] [v21])) fun v22=>
 bnd (gdO (Qc v16 false) (Qi (C m) .neq 3 v19 v22)) fun v23=>
 bnd (Qm v16 (B true) v23) fun v24=>
 ifB v24
 ((Qo (C m) [(none,(B false))]))
 ((K6_2 m c t2 t3))
theorem K6_1_eq:D6 m c c6_1 (Z6 m) nx = (a2 (K6_1 m c) 2 3):=by
  refine Tq (D6 m c (pS1 (pS1 c6_1)) (fun e=>ifB (e 33) ((D6 m c (pS1 (pC1 (pS2 (pS1 c6_1)))) (Z6 m) nx) e) ((D6 m c c6_2 (Z6 m) nx) e)) nx) (by kernel_rfl) ?_
  rw [K6_2_eq m c ]
  kernel_rfl
noncomputable def K6_0 (m:Nat) (c:Qd) (t0 t1:AV):Kt:=
 bnd (Z2 66 t0) fun v0=>
 bnd (Z2 66 t1) fun v1=>
 K6_1 m c v0 v1
theorem K6_0_eq:D6 m c c6_0 (Z6 m) nx = (a2 (K6_0 m c) 0 1):=by
  refine Tq (D6 m c (pS1 c6_0) (D6 m c c6_1 (Z6 m) nx) nx) (by kernel_rfl) ?_
  rw [K6_1_eq m c ]
  kernel_rfl
theorem F6_eq (t0 t1:AV):Qu (C m) c Tryz.f6 [t0,t1] = K6_0 m c t0 t1:=by
  refine Tq ((D6 m c c6_0 (Z6 m) nx) (Xl [t0,t1])) (by kernel_rfl) ?_
  rw [K6_0_eq m c]
  rfl
noncomputable def c18_0:Code:=(Qw Tryz.f18)
noncomputable def c18_1:Code:=(pS2 c18_0)
noncomputable def c18_2:Code:=(pS2 c18_1)
noncomputable def c18_3:Code:=(pS2 c18_2)
noncomputable def c18_4:Code:=(pS2 (pS1 c18_2))
noncomputable def c18_5:Code:=(pL (pB c18_4))
noncomputable def c18_6:Code:=(pS2 c18_5)
noncomputable def c18_7:Code:=(pS2 c18_6)
noncomputable def c18_8:Code:=(pS2 (pB (pS1 c18_6)))
noncomputable def c18_9:Code:=(pS2 c18_8)
noncomputable def c18_10:Code:=(pS2 c18_9)
noncomputable def c18_11:Code:=(pL (pB c18_10))
noncomputable def c18_12:Code:=(pS2 c18_11)
noncomputable def c18_13:Code:=(pS2 c18_12)
noncomputable def Z18 (m:Nat):=fun (e:Nat→AV)=>Qo (C m) (Xh e Tryz.f18.results.toList)
noncomputable def D18 (m:Nat) (c:Qd) (p:Code) (k:TE→Kt) (x:Nat→TE→Kt):=Q2 p (C m) c k x (Z18 m)
noncomputable def Yg (m:Nat) (c:Qd):Kt:=
 Qo (C m) [(none,(B true))]
theorem K18_3_eq:D18 m c c18_3 (Z18 m) nx = (a0 (Yg m c)):=by
  refine Tq (D18 m c (pS1 c18_3) (Z18 m) nx) (by kernel_rfl) ?_
  kernel_rfl
noncomputable def X8 (m:Nat) (c:Qd) (h5:AV→AV→AV→Kt) (t2 t3 t5:AV):Kt:=
 bnd (Qi (C m) .add 3 t5 (I 1)) fun v0=>
 h5 t2 t3 v0
theorem K18_7_eq (h5:AV→AV→AV→Kt):D18 m c c18_7 (a3 h5 2 3 5) (Qa 0 (a0 (Yg m c)) nx) = (a3 (X8 m c h5) 2 3 5):=by
  kernel_rfl
noncomputable def K18_13 (m:Nat) (c:Qd) (h5:AV→AV→AV→Kt) (h11:AV→AV→AV→AV→AV→AV→Kt) (t2 t3 t5 t6 t7 t8:AV):Kt:=
 bnd (Qi (C m) .add 3 t8 (I 1)) fun v0=>
 h11 t2 t3 t5 t6 t7 v0
theorem K18_13_eq (h5:AV→AV→AV→Kt) (h11:AV→AV→AV→AV→AV→AV→Kt):D18 m c c18_13 (a6 h11 2 3 5 6 7 8) (Qa 2 (a3 (X8 m c h5) 2 3 5) (Qa 1 (a3 (X8 m c h5) 2 3 5) (Qa 0 (a0 (Yg m c)) nx))) = (a6 (K18_13 m c h5 h11) 2 3 5 6 7 8):=by
  kernel_rfl
noncomputable def K18_12 (m:Nat) (c:Qd) (h5:AV→AV→AV→Kt) (h11:AV→AV→AV→AV→AV→AV→Kt) (t2 t3 t5 t6 t7 t8:AV):Kt:=
 dIn fun sv0=>
 Qk (Qh (C m) 90 t6 0) fun v1=>
 Qr (ldO (C m) 88 v1) fun v2=>
 Qk (Q9 (C m) 88 v2 t8) fun v3=>
 Qr (ldO (C m) 93 v3) fun v4=>
 Qk (Qh (C m) 90 t7 0) fun v5=>
 Qr (ldO (C m) 88 v5) fun v6=>
 Qk (Q9 (C m) 88 v6 t8) fun v7=>
 Qr (ldO (C m) 93 v7) fun v8=>
 Qk (Qi (C m) .neq 93 v4 v8) fun v9=>
 ifB v9
 ((Qo (C m) [(none,(B false))]))
 ((K18_13 m c h5 h11 t2 t3 t5 t6 t7 t8))
theorem K18_12_eq (h5:AV→AV→AV→Kt) (h11:AV→AV→AV→AV→AV→AV→Kt):D18 m c c18_12 (a6 h11 2 3 5 6 7 8) (Qa 2 (a3 (X8 m c h5) 2 3 5) (Qa 1 (a3 (X8 m c h5) 2 3 5) (Qa 0 (a0 (Yg m c)) nx))) = (a6 (K18_12 m c h5 h11) 2 3 5 6 7 8):=by
  refine Tq (D18 m c (pS1 (pB (pS1 c18_12))) (fun e=>ifB (e 93) ((D18 m c (pS1 (pC1 (pS2 (pB (pS1 c18_12))))) (Z18 m) (Qa 3 (D18 m c c18_13 (a6 h11 2 3 5 6 7 8) (Qa 2 (a3 (X8 m c h5) 2 3 5) (Qa 1 (a3 (X8 m c h5) 2 3 5) (Qa 0 (a0 (Yg m c)) nx)))) (Qa 2 (a3 (X8 m c h5) 2 3 5) (Qa 1 (a3 (X8 m c h5) 2 3 5) (Qa 0 (a0 (Yg m c)) nx))))) e) ((D18 m c c18_13 (a6 h11 2 3 5 6 7 8) (Qa 2 (a3 (X8 m c h5) 2 3 5) (Qa 1 (a3 (X8 m c h5) 2 3 5) (Qa 0 (a0 (Yg m c)) nx)))) e)) (Qa 3 (D18 m c c18_13 (a6 h11 2 3 5 6 7 8) (Qa 2 (a3 (X8 m c h5) 2 3 5) (Qa 1 (a3 (X8 m c h5) 2 3 5) (Qa 0 (a0 (Yg m c)) nx)))) (Qa 2 (a3 (X8 m c h5) 2 3 5) (Qa 1 (a3 (X8 m c h5) 2 3 5) (Qa 0 (a0 (Yg m c)) nx))))) (by kernel_rfl) ?_
  rw [K18_13_eq m c h5 h11 ]
  kernel_rfl
noncomputable def L18_11_b (m:Nat) (c:Qd) (h5:AV→AV→AV→Kt) (h11:AV→AV→AV→AV→AV→AV→Kt) (t2 t3 t5 t6 t7 t8:AV):Kt:=
 bnd (Qh (C m) 90 t6 0) fun v0=>
 bnd (ldO (C m) 88 v0) fun v1=>
 bnd (Qv (C m) .len [88] [v1]) fun v2=>
 bnd (Qi (C m) .lss 3 t8 v2) fun v3=>
 ifB v3
 ((K18_12 m c h5 h11 t2 t3 t5 t6 t7 t8))
 ((X8 m c h5 t2 t3 t5))
noncomputable def L18_11 (m:Nat) (c:Qd) (h5:AV→AV→AV→Kt) (n:Nat):AV→AV→AV→AV→AV→AV→Kt:=
 Nat.rec (motive:=fun _=>AV→AV→AV→AV→AV→AV→Kt) (fun t2 t3 t5 t6 t7 t8=>noK) (fun _ ih=>L18_11_b m c h5 ih) n
theorem L18_11_b_eq (h5:AV→AV→AV→Kt) (h11:AV→AV→AV→AV→AV→AV→Kt):D18 m c c18_11 (a6 h11 2 3 5 6 7 8) (Qa 2 (a3 (X8 m c h5) 2 3 5) (Qa 1 (a3 (X8 m c h5) 2 3 5) (Qa 0 (a0 (Yg m c)) nx))) = fun e=>L18_11_b m c h5 h11 (e 2) (e 3) (e 5) (e 6) (e 7) (e 8):=by
  refine Tq (D18 m c (pS1 (pS1 c18_11)) (fun e=>ifB (e 80) ((D18 m c c18_12 (a6 h11 2 3 5 6 7 8) (Qa 2 (a3 (X8 m c h5) 2 3 5) (Qa 1 (a3 (X8 m c h5) 2 3 5) (Qa 0 (a0 (Yg m c)) nx)))) e) ((a3 (X8 m c h5) 2 3 5) e)) (Qa 2 (a3 (X8 m c h5) 2 3 5) (Qa 1 (a3 (X8 m c h5) 2 3 5) (Qa 0 (a0 (Yg m c)) nx)))) (by kernel_rfl) ?_
  rw [K18_12_eq m c h5 h11 ]
  kernel_rfl
theorem L18_11_eq (h5:AV→AV→AV→Kt) (n:Nat):(Qn (fun k=>D18 m c c18_11 k (Qa 2 (a3 (X8 m c h5) 2 3 5) (Qa 1 (a3 (X8 m c h5) 2 3 5) (Qa 0 (a0 (Yg m c)) nx)))) n) = (a6 (L18_11 m c h5 n) 2 3 5 6 7 8):=by
  induction n with
  | zero=>rfl
  | succ n ih=>
    show D18 m c c18_11 (Qn (fun k=>D18 m c c18_11 k (Qa 2 (a3 (X8 m c h5) 2 3 5) (Qa 1 (a3 (X8 m c h5) 2 3 5) (Qa 0 (a0 (Yg m c)) nx)))) n) (Qa 2 (a3 (X8 m c h5) 2 3 5) (Qa 1 (a3 (X8 m c h5) 2 3 5) (Qa 0 (a0 (Yg m c)) nx))) = _
    rw [ih,L18_11_b_eq m c h5 (L18_11 m c h5 n)]
    rfl
theorem L18_11_succ (h5:AV→AV→AV→Kt) (n:Nat):L18_11 m c h5 (n + 1) = L18_11_b m c h5 (L18_11 m c h5 n):=rfl
noncomputable def K18_10 (m:Nat) (c:Qd) (h5:AV→AV→AV→Kt) (t2 t3 t5 t6 t7 t8:AV):Kt:=
 L18_11 m c h5 m t2 t3 t5 t6 t7 t8
theorem K18_10_eq (h5:AV→AV→AV→Kt):D18 m c c18_10 (a3 (X8 m c h5) 2 3 5) (Qa 1 (a3 (X8 m c h5) 2 3 5) (Qa 0 (a0 (Yg m c)) nx)) = (a6 (K18_10 m c h5) 2 3 5 6 7 8):=by
  refine Tq (Qn (fun k=>D18 m c c18_11 k (Qa 2 (a3 (X8 m c h5) 2 3 5) (Qa 1 (a3 (X8 m c h5) 2 3 5) (Qa 0 (a0 (Yg m c)) nx)))) m) (by kernel_rfl) ?_
  rw [L18_11_eq m c h5 m]
  kernel_rfl
noncomputable def K18_9 (m:Nat) (c:Qd) (h5:AV→AV→AV→Kt) (t2 t3 t5 t6 t7:AV):Kt:=
 K18_10 m c h5 t2 t3 t5 t6 t7 (I 0)
theorem K18_9_eq (h5:AV→AV→AV→Kt):D18 m c c18_9 (a3 (X8 m c h5) 2 3 5) (Qa 1 (a3 (X8 m c h5) 2 3 5) (Qa 0 (a0 (Yg m c)) nx)) = (a5 (K18_9 m c h5) 2 3 5 6 7):=by
  refine Tq (D18 m c (pS1 c18_9) (D18 m c c18_10 (a3 (X8 m c h5) 2 3 5) (Qa 1 (a3 (X8 m c h5) 2 3 5) (Qa 0 (a0 (Yg m c)) nx))) (Qa 1 (a3 (X8 m c h5) 2 3 5) (Qa 0 (a0 (Yg m c)) nx))) (by kernel_rfl) ?_
  rw [K18_10_eq m c h5 ]
  kernel_rfl
noncomputable def K18_8 (m:Nat) (c:Qd) (h5:AV→AV→AV→Kt) (t2 t3 t5 t6 t7:AV):Kt:=
 bnd (Qh (C m) 90 t6 1) fun v0=>
 bnd (ldO (C m) 3 v0) fun v1=>
 bnd (Qh (C m) 90 t7 1) fun v2=>
 bnd (ldO (C m) 3 v2) fun v3=>
 bnd (Qi (C m) .neq 3 v1 v3) fun v4=>
 bnd (gdO (Qc v4 false) (Qh (C m) 90 t6 0)) fun v5=>
 bnd (gdO (Qc v4 false) (ldO (C m) 88 v5)) fun v6=>
 bnd (gdO (Qc v4 false) (Qv (C m) .len [88] [v6])) fun v7=>
 bnd (gdO (Qc v4 false) (Qh (C m) 90 t7 0)) fun v8=>
 bnd (gdO (Qc v4 false) (ldO (C m) 88 v8)) fun v9=>
 bnd (gdO (Qc v4 false) (Qv (C m) .len [88] [v9])) fun v10=>
 bnd (gdO (Qc v4 false) (Qi (C m) .neq 3 v7 v10)) fun v11=>
 bnd (Qm v4 (B true) v11) fun v12=>
 ifB v12
 ((Qo (C m) [(none,(B false))]))
 ((K18_9 m c h5 t2 t3 t5 t6 t7))
theorem K18_8_eq (h5:AV→AV→AV→Kt):D18 m c c18_8 (a3 (X8 m c h5) 2 3 5) (Qa 1 (a3 (X8 m c h5) 2 3 5) (Qa 0 (a0 (Yg m c)) nx)) = (a5 (K18_8 m c h5) 2 3 5 6 7):=by
  refine Tq (D18 m c (pS1 (pS1 c18_8)) (fun e=>ifB (e 75) ((D18 m c (pS1 (pC1 (pS2 (pS1 c18_8)))) (Z18 m) (Qa 1 (a3 (X8 m c h5) 2 3 5) (Qa 0 (a0 (Yg m c)) nx))) e) ((D18 m c c18_9 (a3 (X8 m c h5) 2 3 5) (Qa 1 (a3 (X8 m c h5) 2 3 5) (Qa 0 (a0 (Yg m c)) nx))) e)) (Qa 1 (a3 (X8 m c h5) 2 3 5) (Qa 0 (a0 (Yg m c)) nx))) (by kernel_rfl) ?_
  rw [K18_9_eq m c h5 ]
  kernel_rfl
noncomputable def K18_6 (m:Nat) (c:Qd) (h5:AV→AV→AV→Kt) (t2 t3 t5:AV):Kt:=
 atN 14 fun v0=>
 dIn fun sv0=>
 Qk (Qh (C m) 54 t2 3) fun v1=>
 Qr (ldO (C m) 51 v1) fun v2=>
 Qk (Q9 (C m) 51 v2 t5) fun v3=>
 Qr (ldO (C m) 90 v3) fun v4=>
 Vw (Xe (C m) 90) (Nat.add v0 10) fun v5=>
 Vw (Xe (C m) 90) (Nat.add v0 11) fun v6=>
 Xn (stO (C m) 90 v5 v4) fun v7 sv7=>
 Qk (Qh (C m) 54 t3 3) fun v8=>
 Ze (some true) (ldO (C m) 51 v8) (fun v9=>(Xk (ldO (C m) 51 v8) v9 sv7 && (Xk (ldO (C m) 51 v8) v9 sv0 && true))) fun v10=>
 Qk (Q9 (C m) 51 v10 t5) fun v11=>
 Ze (some true) (ldO (C m) 90 v11) (fun v12=>(Xk (ldO (C m) 90 v11) v12 sv7 && (Xk (ldO (C m) 90 v11) v12 sv0 && true))) fun v13=>
 Xn (stO (C m) 90 v6 v13) fun v14 sv14=>
 K18_8 m c h5 t2 t3 t5 v5 v6
theorem K18_6_eq (h5:AV→AV→AV→Kt):D18 m c c18_6 (a3 h5 2 3 5) (Qa 0 (a0 (Yg m c)) nx) = (a3 (K18_6 m c h5) 2 3 5):=by
  refine Tq (D18 m c (pS1 (pB (pS1 c18_6))) (D18 m c c18_8 (D18 m c c18_7 (a3 h5 2 3 5) (Qa 0 (a0 (Yg m c)) nx)) (Qa 1 (D18 m c c18_7 (a3 h5 2 3 5) (Qa 0 (a0 (Yg m c)) nx)) (Qa 0 (a0 (Yg m c)) nx))) (Qa 1 (D18 m c c18_7 (a3 h5 2 3 5) (Qa 0 (a0 (Yg m c)) nx)) (Qa 0 (a0 (Yg m c)) nx))) (by kernel_rfl) ?_
  rw [K18_7_eq m c h5 ,K18_8_eq m c h5 ]
  kernel_rfl
noncomputable def L18_5_b (m:Nat) (c:Qd) (h5:AV→AV→AV→Kt) (t2 t3 t5:AV):Kt:=
 bnd (Qh (C m) 54 t2 3) fun v0=>
 bnd (ldO (C m) 51 v0) fun v1=>
 bnd (Qv (C m) .len [51] [v1]) fun v2=>
 bnd (Qi (C m) .lss 3 t5 v2) fun v3=>
 ifB v3
 ((K18_6 m c h5 t2 t3 t5))
 ((Yg m c))
noncomputable def L18_5 (m:Nat) (c:Qd) (n:Nat):AV→AV→AV→Kt:=
 Nat.rec (motive:=fun _=>AV→AV→AV→Kt) (fun t2 t3 t5=>noK) (fun _ ih=>L18_5_b m c ih) n
theorem L18_5_b_eq (h5:AV→AV→AV→Kt):D18 m c c18_5 (a3 h5 2 3 5) (Qa 0 (a0 (Yg m c)) nx) = fun e=>L18_5_b m c h5 (e 2) (e 3) (e 5):=by
  refine Tq (D18 m c (pS1 (pS1 c18_5)) (fun e=>ifB (e 49) ((D18 m c c18_6 (a3 h5 2 3 5) (Qa 0 (a0 (Yg m c)) nx)) e) ((a0 (Yg m c)) e)) (Qa 0 (a0 (Yg m c)) nx)) (by kernel_rfl) ?_
  rw [K18_6_eq m c h5 ]
  kernel_rfl
theorem L18_5_eq (n:Nat):(Qn (fun k=>D18 m c c18_5 k (Qa 0 (a0 (Yg m c)) nx)) n) = (a3 (L18_5 m c n) 2 3 5):=by
  induction n with
  | zero=>rfl
  | succ n ih=>
    show D18 m c c18_5 (Qn (fun k=>D18 m c c18_5 k (Qa 0 (a0 (Yg m c)) nx)) n) (Qa 0 (a0 (Yg m c)) nx) = _
    rw [ih,L18_5_b_eq m c (L18_5 m c n)]
    rfl
theorem L18_5_succ (n:Nat):L18_5 m c (n + 1) = L18_5_b m c (L18_5 m c n):=rfl
noncomputable def K18_4 (m:Nat) (c:Qd) (t2 t3 t5:AV):Kt:=
 L18_5 m c m t2 t3 t5
theorem K18_4_eq:D18 m c c18_4 (a0 (Yg m c)) nx = (a3 (K18_4 m c) 2 3 5):=by
  refine Tq (Qn (fun k=>D18 m c c18_5 k (Qa 0 (a0 (Yg m c)) nx)) m) (by kernel_rfl) ?_
  rw [L18_5_eq m c m]
  kernel_rfl
noncomputable def K18_2 (m:Nat) (c:Qd) (t2 t3:AV):Kt:=
 K18_4 m c t2 t3 (I 0)
theorem K18_2_eq:D18 m c c18_2 (Z18 m) nx = (a2 (K18_2 m c) 2 3):=by
  refine Tq (D18 m c (pS1 (pS1 c18_2)) (D18 m c c18_4 (D18 m c c18_3 (Z18 m) nx) nx) nx) (by kernel_rfl) ?_
  rw [K18_3_eq m c ,K18_4_eq m c ]
  kernel_rfl
noncomputable def K18_1 (m:Nat) (c:Qd) (t2 t3:AV):Kt:=
 bnd (Qh (C m) 54 t2 0) fun v0=>
 bnd (ldO (C m) 22 v0) fun v1=>
 bnd (Qh (C m) 54 t3 0) fun v2=>
 bnd (ldO (C m) 22 v2) fun v3=>
 bnd (Qi (C m) .neq 22 v1 v3) fun v4=>
 bnd (gdO (Qc v4 false) (Qh (C m) 54 t2 1)) fun v5=>
 bnd (gdO (Qc v4 false) (ldO (C m) 3 v5)) fun v6=>
 bnd (gdO (Qc v4 false) (Qh (C m) 54 t3 1)) fun v7=>
 bnd (gdO (Qc v4 false) (ldO (C m) 3 v7)) fun v8=>
 bnd (gdO (Qc v4 false) (Qi (C m) .neq 3 v6 v8)) fun v9=>
 bnd (Qm v4 (B true) v9) fun v10=>
 bnd (gdO (Qc v10 false) (Qh (C m) 54 t2 2)) fun v11=>
 bnd (gdO (Qc v10 false) (ldO (C m) 3 v11)) fun v12=>
 bnd (gdO (Qc v10 false) (Qh (C m) 54 t3 2)) fun v13=>
 bnd (gdO (Qc v10 false) (ldO (C m) 3 v13)) fun v14=>
 bnd (gdO (Qc v10 false) (Qi (C m) .neq 3 v12 v14)) fun v15=>
 bnd (Qm v10 (B true) v15) fun v16=>
 bnd (gdO (Qc v16 false) (Qh (C m) 54 t2 3)) fun v17=>
 bnd (gdO (Qc v16 false) (ldO (C m) 51 v17)) fun v18=>
 bnd (gdO (Qc v16 false) (Qv (C m) .len [51] [v18])) fun v19=>
 bnd (gdO (Qc v16 false) (Qh (C m) 54 t3 3)) fun v20=>
 bnd (gdO (Qc v16 false) (ldO (C m) 51 v20)) fun v21=>
 bnd (gdO (Qc v16 false) (Qv (C m) .len [51] [v21])) fun v22=>
 bnd (gdO (Qc v16 false) (Qi (C m) .neq 3 v19 v22)) fun v23=>
 bnd (Qm v16 (B true) v23) fun v24=>
 bnd (gdO (Qc v24 false) (Qh (C m) 54 t2 4)) fun v25=>
 bnd (gdO (Qc v24 false) (ldO (C m) 52 v25)) fun v26=>
 bnd (gdO (Qc v24 false) (Qh (C m) 54 t3 4)) fun v27=>
 bnd (gdO (Qc v24 false) (ldO (C m) 52 v27)) fun v28=>
 bnd (gdO (Qc v24 false) (Qy (C m) c (fnV 43) [v26,v28])) fun v29=>
 bnd (gdO (Qc v24 false) (unO .not v29)) fun v30=>
 bnd (Qm v24 (B true) v30) fun v31=>
 ifB v31
 ((Qo (C m) [(none,(B false))]))
 ((K18_2 m c t2 t3))
theorem K18_1_eq:D18 m c c18_1 (Z18 m) nx = (a2 (K18_1 m c) 2 3):=by
  refine Tq (D18 m c (pS1 (pS1 c18_1)) (fun e=>ifB (e 44) ((D18 m c (pS1 (pC1 (pS2 (pS1 c18_1)))) (Z18 m) nx) e) ((D18 m c c18_2 (Z18 m) nx) e)) nx) (by kernel_rfl) ?_
  rw [K18_2_eq m c ]
  kernel_rfl
noncomputable def K18_0 (m:Nat) (c:Qd) (t0 t1:AV):Kt:=
 bnd (Z2 54 t0) fun v0=>
 bnd (Z2 54 t1) fun v1=>
 K18_1 m c v0 v1
theorem K18_0_eq:D18 m c c18_0 (Z18 m) nx = (a2 (K18_0 m c) 0 1):=by
  refine Tq (D18 m c (pS1 c18_0) (D18 m c c18_1 (Z18 m) nx) nx) (by kernel_rfl) ?_
  rw [K18_1_eq m c ]
  kernel_rfl
theorem F18_eq (t0 t1:AV):Qu (C m) c Tryz.f18 [t0,t1] = K18_0 m c t0 t1:=by
  refine Tq ((D18 m c c18_0 (Z18 m) nx) (Xl [t0,t1])) (by kernel_rfl) ?_
  rw [K18_0_eq m c]
  rfl
noncomputable def c43_0:Code:=(Qw Tryz.f43)
noncomputable def Z43 (m:Nat):=fun (e:Nat→AV)=>Qo (C m) (Xh e Tryz.f43.results.toList)
noncomputable def D43 (m:Nat) (c:Qd) (p:Code) (k:TE→Kt) (x:Nat→TE→Kt):=Q2 p (C m) c k x (Z43 m)
noncomputable def K43_0 (m:Nat) (c:Qd) (t0 t1:AV):Kt:=
 bnd (Z2 52 t0) fun v0=>
 bnd (Z2 52 t1) fun v1=>
 bnd (Qh (C m) 52 v0 0) fun v2=>
 bnd (ldO (C m) 22 v2) fun v3=>
 bnd (Qh (C m) 52 v1 0) fun v4=>
 bnd (ldO (C m) 22 v4) fun v5=>
 bnd (Qi (C m) .eql 22 v3 v5) fun v6=>
 bnd (gdO (Qc v6 true) (Qh (C m) 52 v0 1)) fun v7=>
 bnd (gdO (Qc v6 true) (ldO (C m) 3 v7)) fun v8=>
 bnd (gdO (Qc v6 true) (Qh (C m) 52 v1 1)) fun v9=>
 bnd (gdO (Qc v6 true) (ldO (C m) 3 v9)) fun v10=>
 bnd (gdO (Qc v6 true) (Qi (C m) .eql 3 v8 v10)) fun v11=>
 bnd (Qm v6 v11 (B false)) fun v12=>
 bnd (gdO (Qc v12 true) (Qh (C m) 52 v0 2)) fun v13=>
 bnd (gdO (Qc v12 true) (ldO (C m) 27 v13)) fun v14=>
 bnd (gdO (Qc v12 true) (Qh (C m) 52 v1 2)) fun v15=>
 bnd (gdO (Qc v12 true) (ldO (C m) 27 v15)) fun v16=>
 bnd (gdO (Qc v12 true) (Qy (C m) c (fnV 88) [v14,v16])) fun v17=>
 bnd (Qm v12 v17 (B false)) fun v18=>
 Qo (C m) [(none,v18)]
theorem K43_0_eq:D43 m c c43_0 (Z43 m) nx = (a2 (K43_0 m c) 0 1):=by
  refine Tq (D43 m c (pS1 c43_0) (D43 m c (pS1 (pS2 c43_0)) (Z43 m) nx) nx) (by kernel_rfl) ?_
  kernel_rfl
theorem F43_eq (t0 t1:AV):Qu (C m) c Tryz.f43 [t0,t1] = K43_0 m c t0 t1:=by
  refine Tq ((D43 m c c43_0 (Z43 m) nx) (Xl [t0,t1])) (by kernel_rfl) ?_
  rw [K43_0_eq m c]
  rfl
noncomputable def c88_0:Code:=(Qw Tryz.f88)
noncomputable def c88_1:Code:=(pS2 c88_0)
noncomputable def c88_2:Code:=(pS2 c88_1)
noncomputable def c88_3:Code:=(pS2 c88_2)
noncomputable def c88_4:Code:=(pS2 (pS1 c88_2))
noncomputable def c88_5:Code:=(pL (pB c88_4))
noncomputable def c88_6:Code:=(pS2 c88_5)
noncomputable def c88_7:Code:=(pS2 c88_6)
noncomputable def c88_8:Code:=(pS2 (pB (pS1 c88_6)))
noncomputable def c88_9:Code:=(pS2 c88_8)
noncomputable def c88_10:Code:=(pL (pB c88_9))
noncomputable def c88_11:Code:=(pS2 c88_10)
noncomputable def c88_12:Code:=(pS2 c88_11)
noncomputable def Z88 (m:Nat):=fun (e:Nat→AV)=>Qo (C m) (Xh e Tryz.f88.results.toList)
noncomputable def D88 (m:Nat) (c:Qd) (p:Code) (k:TE→Kt) (x:Nat→TE→Kt):=Q2 p (C m) c k x (Z88 m)
noncomputable def Yr (m:Nat) (c:Qd):Kt:=
 Qo (C m) [(none,(B true))]
theorem K88_3_eq:D88 m c c88_3 (Z88 m) nx = (a0 (Yr m c)):=by
  refine Tq (D88 m c (pS1 c88_3) (Z88 m) nx) (by kernel_rfl) ?_
  kernel_rfl
noncomputable def Ys (m:Nat) (c:Qd) (h5:AV→AV→AV→Kt) (t0 t1 t5:AV):Kt:=
 bnd (Qi (C m) .add 3 t5 (I 1)) fun v0=>
 h5 t0 t1 v0
theorem K88_7_eq (h5:AV→AV→AV→Kt):D88 m c c88_7 (a3 h5 0 1 5) (Qa 0 (a0 (Yr m c)) nx) = (a3 (Ys m c h5) 0 1 5):=by
  kernel_rfl
noncomputable def K88_12 (m:Nat) (c:Qd) (h5:AV→AV→AV→Kt) (h10:AV→AV→AV→AV→Kt) (t0 t1 t5 t6:AV):Kt:=
 bnd (Qi (C m) .add 3 t6 (I 1)) fun v0=>
 h10 t0 t1 t5 v0
theorem K88_12_eq (h5:AV→AV→AV→Kt) (h10:AV→AV→AV→AV→Kt):D88 m c c88_12 (a4 h10 0 1 5 6) (Qa 2 (a3 (Ys m c h5) 0 1 5) (Qa 1 (a3 (Ys m c h5) 0 1 5) (Qa 0 (a0 (Yr m c)) nx))) = (a4 (K88_12 m c h5 h10) 0 1 5 6):=by
  kernel_rfl
noncomputable def K88_11 (m:Nat) (c:Qd) (h5:AV→AV→AV→Kt) (h10:AV→AV→AV→AV→Kt) (t0 t1 t5 t6:AV):Kt:=
 dIn fun sv0=>
 Qk (Q9 (C m) 27 t0 t5) fun v1=>
 Qr (ldO (C m) 25 v1) fun v2=>
 Qk (Q9 (C m) 25 v2 t6) fun v3=>
 Qr (ldO (C m) 3 v3) fun v4=>
 Qk (Q9 (C m) 27 t1 t5) fun v5=>
 Qr (ldO (C m) 25 v5) fun v6=>
 Qk (Q9 (C m) 25 v6 t6) fun v7=>
 Qr (ldO (C m) 3 v7) fun v8=>
 Qk (Qi (C m) .neq 3 v4 v8) fun v9=>
 ifB v9
 ((Qo (C m) [(none,(B false))]))
 ((K88_12 m c h5 h10 t0 t1 t5 t6))
theorem K88_11_eq (h5:AV→AV→AV→Kt) (h10:AV→AV→AV→AV→Kt):D88 m c c88_11 (a4 h10 0 1 5 6) (Qa 2 (a3 (Ys m c h5) 0 1 5) (Qa 1 (a3 (Ys m c h5) 0 1 5) (Qa 0 (a0 (Yr m c)) nx))) = (a4 (K88_11 m c h5 h10) 0 1 5 6):=by
  refine Tq (D88 m c (pS1 (pB (pS1 c88_11))) (fun e=>ifB (e 52) ((D88 m c (pS1 (pC1 (pS2 (pB (pS1 c88_11))))) (Z88 m) (Qa 3 (D88 m c c88_12 (a4 h10 0 1 5 6) (Qa 2 (a3 (Ys m c h5) 0 1 5) (Qa 1 (a3 (Ys m c h5) 0 1 5) (Qa 0 (a0 (Yr m c)) nx)))) (Qa 2 (a3 (Ys m c h5) 0 1 5) (Qa 1 (a3 (Ys m c h5) 0 1 5) (Qa 0 (a0 (Yr m c)) nx))))) e) ((D88 m c c88_12 (a4 h10 0 1 5 6) (Qa 2 (a3 (Ys m c h5) 0 1 5) (Qa 1 (a3 (Ys m c h5) 0 1 5) (Qa 0 (a0 (Yr m c)) nx)))) e)) (Qa 3 (D88 m c c88_12 (a4 h10 0 1 5 6) (Qa 2 (a3 (Ys m c h5) 0 1 5) (Qa 1 (a3 (Ys m c h5) 0 1 5) (Qa 0 (a0 (Yr m c)) nx)))) (Qa 2 (a3 (Ys m c h5) 0 1 5) (Qa 1 (a3 (Ys m c h5) 0 1 5) (Qa 0 (a0 (Yr m c)) nx))))) (by kernel_rfl) ?_
  rw [K88_12_eq m c h5 h10 ]
  kernel_rfl
noncomputable def L88_10_b (m:Nat) (c:Qd) (h5:AV→AV→AV→Kt) (h10:AV→AV→AV→AV→Kt) (t0 t1 t5 t6:AV):Kt:=
 bnd (Q9 (C m) 27 t0 t5) fun v0=>
 bnd (ldO (C m) 25 v0) fun v1=>
 bnd (Qv (C m) .len [25] [v1]) fun v2=>
 bnd (Qi (C m) .lss 3 t6 v2) fun v3=>
 ifB v3
 ((K88_11 m c h5 h10 t0 t1 t5 t6))
 ((Ys m c h5 t0 t1 t5))
noncomputable def L88_10 (m:Nat) (c:Qd) (h5:AV→AV→AV→Kt) (n:Nat):AV→AV→AV→AV→Kt:=
 Nat.rec (motive:=fun _=>AV→AV→AV→AV→Kt) (fun t0 t1 t5 t6=>noK) (fun _ ih=>L88_10_b m c h5 ih) n
theorem L88_10_b_eq (h5:AV→AV→AV→Kt) (h10:AV→AV→AV→AV→Kt):D88 m c c88_10 (a4 h10 0 1 5 6) (Qa 2 (a3 (Ys m c h5) 0 1 5) (Qa 1 (a3 (Ys m c h5) 0 1 5) (Qa 0 (a0 (Yr m c)) nx))) = fun e=>L88_10_b m c h5 h10 (e 0) (e 1) (e 5) (e 6):=by
  refine Tq (D88 m c (pS1 (pS1 c88_10)) (fun e=>ifB (e 35) ((D88 m c c88_11 (a4 h10 0 1 5 6) (Qa 2 (a3 (Ys m c h5) 0 1 5) (Qa 1 (a3 (Ys m c h5) 0 1 5) (Qa 0 (a0 (Yr m c)) nx)))) e) ((a3 (Ys m c h5) 0 1 5) e)) (Qa 2 (a3 (Ys m c h5) 0 1 5) (Qa 1 (a3 (Ys m c h5) 0 1 5) (Qa 0 (a0 (Yr m c)) nx)))) (by kernel_rfl) ?_
  rw [K88_11_eq m c h5 h10 ]
  kernel_rfl
theorem L88_10_eq (h5:AV→AV→AV→Kt) (n:Nat):(Qn (fun k=>D88 m c c88_10 k (Qa 2 (a3 (Ys m c h5) 0 1 5) (Qa 1 (a3 (Ys m c h5) 0 1 5) (Qa 0 (a0 (Yr m c)) nx)))) n) = (a4 (L88_10 m c h5 n) 0 1 5 6):=by
  induction n with
  | zero=>rfl
  | succ n ih=>
    show D88 m c c88_10 (Qn (fun k=>D88 m c c88_10 k (Qa 2 (a3 (Ys m c h5) 0 1 5) (Qa 1 (a3 (Ys m c h5) 0 1 5) (Qa 0 (a0 (Yr m c)) nx)))) n) (Qa 2 (a3 (Ys m c h5) 0 1 5) (Qa 1 (a3 (Ys m c h5) 0 1 5) (Qa 0 (a0 (Yr m c)) nx))) = _
    rw [ih,L88_10_b_eq m c h5 (L88_10 m c h5 n)]
    rfl
theorem L88_10_succ (h5:AV→AV→AV→Kt) (n:Nat):L88_10 m c h5 (n + 1) = L88_10_b m c h5 (L88_10 m c h5 n):=rfl
noncomputable def K88_9 (m:Nat) (c:Qd) (h5:AV→AV→AV→Kt) (t0 t1 t5 t6:AV):Kt:=
 L88_10 m c h5 m t0 t1 t5 t6
theorem K88_9_eq (h5:AV→AV→AV→Kt):D88 m c c88_9 (a3 (Ys m c h5) 0 1 5) (Qa 1 (a3 (Ys m c h5) 0 1 5) (Qa 0 (a0 (Yr m c)) nx)) = (a4 (K88_9 m c h5) 0 1 5 6):=by
  refine Tq (Qn (fun k=>D88 m c c88_10 k (Qa 2 (a3 (Ys m c h5) 0 1 5) (Qa 1 (a3 (Ys m c h5) 0 1 5) (Qa 0 (a0 (Yr m c)) nx)))) m) (by kernel_rfl) ?_
  rw [L88_10_eq m c h5 m]
  kernel_rfl
noncomputable def K88_8 (m:Nat) (c:Qd) (h5:AV→AV→AV→Kt) (t0 t1 t5:AV):Kt:=
 K88_9 m c h5 t0 t1 t5 (I 0)
theorem K88_8_eq (h5:AV→AV→AV→Kt):D88 m c c88_8 (a3 (Ys m c h5) 0 1 5) (Qa 1 (a3 (Ys m c h5) 0 1 5) (Qa 0 (a0 (Yr m c)) nx)) = (a3 (K88_8 m c h5) 0 1 5):=by
  refine Tq (D88 m c (pS1 c88_8) (D88 m c c88_9 (a3 (Ys m c h5) 0 1 5) (Qa 1 (a3 (Ys m c h5) 0 1 5) (Qa 0 (a0 (Yr m c)) nx))) (Qa 1 (a3 (Ys m c h5) 0 1 5) (Qa 0 (a0 (Yr m c)) nx))) (by kernel_rfl) ?_
  rw [K88_9_eq m c h5 ]
  kernel_rfl
noncomputable def K88_6 (m:Nat) (c:Qd) (h5:AV→AV→AV→Kt) (t0 t1 t5:AV):Kt:=
 dIn fun sv0=>
 Qk (Q9 (C m) 27 t0 t5) fun v1=>
 Qr (ldO (C m) 25 v1) fun v2=>
 Qr (Qv (C m) .len [25] [v2]) fun v3=>
 Qk (Q9 (C m) 27 t1 t5) fun v4=>
 Qr (ldO (C m) 25 v4) fun v5=>
 Qr (Qv (C m) .len [25] [v5]) fun v6=>
 Qk (Qi (C m) .neq 3 v3 v6) fun v7=>
 ifB v7
 ((Qo (C m) [(none,(B false))]))
 ((K88_8 m c h5 t0 t1 t5))
theorem K88_6_eq (h5:AV→AV→AV→Kt):D88 m c c88_6 (a3 h5 0 1 5) (Qa 0 (a0 (Yr m c)) nx) = (a3 (K88_6 m c h5) 0 1 5):=by
  refine Tq (D88 m c (pS1 (pS1 (pB (pS1 c88_6)))) (fun e=>ifB (e 28) ((D88 m c (pS1 (pC1 (pS2 (pS1 (pB (pS1 c88_6)))))) (Z88 m) (Qa 1 (D88 m c c88_7 (a3 h5 0 1 5) (Qa 0 (a0 (Yr m c)) nx)) (Qa 0 (a0 (Yr m c)) nx))) e) ((D88 m c c88_8 (D88 m c c88_7 (a3 h5 0 1 5) (Qa 0 (a0 (Yr m c)) nx)) (Qa 1 (D88 m c c88_7 (a3 h5 0 1 5) (Qa 0 (a0 (Yr m c)) nx)) (Qa 0 (a0 (Yr m c)) nx))) e)) (Qa 1 (D88 m c c88_7 (a3 h5 0 1 5) (Qa 0 (a0 (Yr m c)) nx)) (Qa 0 (a0 (Yr m c)) nx))) (by kernel_rfl) ?_
  rw [K88_7_eq m c h5 ,K88_8_eq m c h5 ]
  kernel_rfl
noncomputable def L88_5_b (m:Nat) (c:Qd) (h5:AV→AV→AV→Kt) (t0 t1 t5:AV):Kt:=
 bnd (Qv (C m) .len [27] [t0]) fun v0=>
 bnd (Qi (C m) .lss 3 t5 v0) fun v1=>
 ifB v1
 ((K88_6 m c h5 t0 t1 t5))
 ((Yr m c))
noncomputable def L88_5 (m:Nat) (c:Qd) (n:Nat):AV→AV→AV→Kt:=
 Nat.rec (motive:=fun _=>AV→AV→AV→Kt) (fun t0 t1 t5=>noK) (fun _ ih=>L88_5_b m c ih) n
theorem L88_5_b_eq (h5:AV→AV→AV→Kt):D88 m c c88_5 (a3 h5 0 1 5) (Qa 0 (a0 (Yr m c)) nx) = fun e=>L88_5_b m c h5 (e 0) (e 1) (e 5):=by
  refine Tq (D88 m c (pS1 (pS1 c88_5)) (fun e=>ifB (e 15) ((D88 m c c88_6 (a3 h5 0 1 5) (Qa 0 (a0 (Yr m c)) nx)) e) ((a0 (Yr m c)) e)) (Qa 0 (a0 (Yr m c)) nx)) (by kernel_rfl) ?_
  rw [K88_6_eq m c h5 ]
  kernel_rfl
theorem L88_5_eq (n:Nat):(Qn (fun k=>D88 m c c88_5 k (Qa 0 (a0 (Yr m c)) nx)) n) = (a3 (L88_5 m c n) 0 1 5):=by
  induction n with
  | zero=>rfl
  | succ n ih=>
    show D88 m c c88_5 (Qn (fun k=>D88 m c c88_5 k (Qa 0 (a0 (Yr m c)) nx)) n) (Qa 0 (a0 (Yr m c)) nx) = _
    rw [ih,L88_5_b_eq m c (L88_5 m c n)]
    rfl
theorem L88_5_succ (n:Nat):L88_5 m c (n + 1) = L88_5_b m c (L88_5 m c n):=rfl
noncomputable def K88_4 (m:Nat) (c:Qd) (t0 t1 t5:AV):Kt:=
 L88_5 m c m t0 t1 t5
theorem K88_4_eq:D88 m c c88_4 (a0 (Yr m c)) nx = (a3 (K88_4 m c) 0 1 5):=by
  refine Tq (Qn (fun k=>D88 m c c88_5 k (Qa 0 (a0 (Yr m c)) nx)) m) (by kernel_rfl) ?_
  rw [L88_5_eq m c m]
  kernel_rfl
noncomputable def K88_2 (m:Nat) (c:Qd) (t0 t1:AV):Kt:=
 K88_4 m c t0 t1 (I 0)
theorem K88_2_eq:D88 m c c88_2 (Z88 m) nx = (a2 (K88_2 m c) 0 1):=by
  refine Tq (D88 m c (pS1 (pS1 c88_2)) (D88 m c c88_4 (D88 m c c88_3 (Z88 m) nx) nx) nx) (by kernel_rfl) ?_
  rw [K88_3_eq m c ,K88_4_eq m c ]
  kernel_rfl
noncomputable def K88_1 (m:Nat) (c:Qd) (t0 t1:AV):Kt:=
 bnd (Qv (C m) .len [27] [t0]) fun v0=>
 bnd (Qv (C m) .len [27] [t1]) fun v1=>
 bnd (Qi (C m) .neq 3 v0 v1) fun v2=>
 ifB v2
 ((Qo (C m) [(none,(B false))]))
 ((K88_2 m c t0 t1))
theorem K88_1_eq:D88 m c c88_1 (Z88 m) nx = (a2 (K88_1 m c) 0 1):=by
  refine Tq (D88 m c (pS1 (pS1 c88_1)) (fun e=>ifB (e 11) ((D88 m c (pS1 (pC1 (pS2 (pS1 c88_1)))) (Z88 m) nx) e) ((D88 m c c88_2 (Z88 m) nx) e)) nx) (by kernel_rfl) ?_
  rw [K88_2_eq m c ]
  kernel_rfl
noncomputable def K88_0 (m:Nat) (c:Qd) (t0 t1:AV):Kt:=
 K88_1 m c t0 t1
theorem K88_0_eq:D88 m c c88_0 (Z88 m) nx = (a2 (K88_0 m c) 0 1):=by
  refine Tq (D88 m c (pS1 c88_0) (D88 m c c88_1 (Z88 m) nx) nx) (by kernel_rfl) ?_
  rw [K88_1_eq m c ]
  kernel_rfl
theorem F88_eq (t0 t1:AV):Qu (C m) c Tryz.f88 [t0,t1] = K88_0 m c t0 t1:=by
  refine Tq ((D88 m c c88_0 (Z88 m) nx) (Xl [t0,t1])) (by kernel_rfl) ?_
  rw [K88_0_eq m c]
  rfl
noncomputable def c19_0:Code:=(Qw Tryz.f19)
noncomputable def c19_1:Code:=(pS2 c19_0)
noncomputable def c19_2:Code:=(pS2 c19_1)
noncomputable def c19_3:Code:=(pS2 c19_2)
noncomputable def c19_4:Code:=(pS2 (pS1 c19_2))
noncomputable def c19_5:Code:=(pL (pB c19_4))
noncomputable def c19_6:Code:=(pS2 c19_5)
noncomputable def c19_7:Code:=(pS2 c19_6)
noncomputable def c19_8:Code:=(pS2 (pB (pS1 c19_6)))
noncomputable def c19_9:Code:=(pS2 c19_8)
noncomputable def c19_10:Code:=(pL (pB c19_9))
noncomputable def c19_11:Code:=(pS2 c19_10)
noncomputable def c19_12:Code:=(pS2 c19_11)
noncomputable def Z19 (m:Nat):=fun (e:Nat→AV)=>Qo (C m) (Xh e Tryz.f19.results.toList)
noncomputable def D19 (m:Nat) (c:Qd) (p:Code) (k:TE→Kt) (x:Nat→TE→Kt):=Q2 p (C m) c k x (Z19 m)
noncomputable def Yt (m:Nat) (c:Qd):Kt:=
 Qo (C m) [(none,(B true))]
theorem K19_3_eq:D19 m c c19_3 (Z19 m) nx = (a0 (Yt m c)):=by
  refine Tq (D19 m c (pS1 c19_3) (Z19 m) nx) (by kernel_rfl) ?_
  kernel_rfl
noncomputable def Yu (m:Nat) (c:Qd) (h5:AV→AV→AV→Kt) (t2 t3 t5:AV):Kt:=
 bnd (Qi (C m) .add 3 t5 (I 1)) fun v0=>
 h5 t2 t3 v0
theorem K19_7_eq (h5:AV→AV→AV→Kt):D19 m c c19_7 (a3 h5 2 3 5) (Qa 0 (a0 (Yt m c)) nx) = (a3 (Yu m c h5) 2 3 5):=by
  kernel_rfl
noncomputable def K19_12 (m:Nat) (c:Qd) (h5:AV→AV→AV→Kt) (h10:AV→AV→AV→AV→Kt) (t2 t3 t5 t6:AV):Kt:=
 bnd (Qi (C m) .add 3 t6 (I 1)) fun v0=>
 h10 t2 t3 t5 v0
theorem K19_12_eq (h5:AV→AV→AV→Kt) (h10:AV→AV→AV→AV→Kt):D19 m c c19_12 (a4 h10 2 3 5 6) (Qa 2 (a3 (Yu m c h5) 2 3 5) (Qa 1 (a3 (Yu m c h5) 2 3 5) (Qa 0 (a0 (Yt m c)) nx))) = (a4 (K19_12 m c h5 h10) 2 3 5 6):=by
  kernel_rfl
noncomputable def K19_11 (m:Nat) (c:Qd) (h5:AV→AV→AV→Kt) (h10:AV→AV→AV→AV→Kt) (t2 t3 t5 t6:AV):Kt:=
 dIn fun sv0=>
 Qk (Qh (C m) 58 t2 2) fun v1=>
 Qr (ldO (C m) 56 v1) fun v2=>
 Qk (Q9 (C m) 56 v2 t5) fun v3=>
 Qr (ldO (C m) 95 v3) fun v4=>
 Qk (Q9 (C m) 95 v4 t6) fun v5=>
 Qr (ldO (C m) 98 v5) fun v6=>
 Qk (Qh (C m) 58 t3 2) fun v7=>
 Qr (ldO (C m) 56 v7) fun v8=>
 Qk (Q9 (C m) 56 v8 t5) fun v9=>
 Qr (ldO (C m) 95 v9) fun v10=>
 Qk (Q9 (C m) 95 v10 t6) fun v11=>
 Qr (ldO (C m) 98 v11) fun v12=>
 Qk (Qi (C m) .neq 98 v6 v12) fun v13=>
 ifB v13
 ((Qo (C m) [(none,(B false))]))
 ((K19_12 m c h5 h10 t2 t3 t5 t6))
theorem K19_11_eq (h5:AV→AV→AV→Kt) (h10:AV→AV→AV→AV→Kt):D19 m c c19_11 (a4 h10 2 3 5 6) (Qa 2 (a3 (Yu m c h5) 2 3 5) (Qa 1 (a3 (Yu m c h5) 2 3 5) (Qa 0 (a0 (Yt m c)) nx))) = (a4 (K19_11 m c h5 h10) 2 3 5 6):=by
  refine Tq (D19 m c (pS1 (pB (pS1 c19_11))) (fun e=>ifB (e 75) ((D19 m c (pS1 (pC1 (pS2 (pB (pS1 c19_11))))) (Z19 m) (Qa 3 (D19 m c c19_12 (a4 h10 2 3 5 6) (Qa 2 (a3 (Yu m c h5) 2 3 5) (Qa 1 (a3 (Yu m c h5) 2 3 5) (Qa 0 (a0 (Yt m c)) nx)))) (Qa 2 (a3 (Yu m c h5) 2 3 5) (Qa 1 (a3 (Yu m c h5) 2 3 5) (Qa 0 (a0 (Yt m c)) nx))))) e) ((D19 m c c19_12 (a4 h10 2 3 5 6) (Qa 2 (a3 (Yu m c h5) 2 3 5) (Qa 1 (a3 (Yu m c h5) 2 3 5) (Qa 0 (a0 (Yt m c)) nx)))) e)) (Qa 3 (D19 m c c19_12 (a4 h10 2 3 5 6) (Qa 2 (a3 (Yu m c h5) 2 3 5) (Qa 1 (a3 (Yu m c h5) 2 3 5) (Qa 0 (a0 (Yt m c)) nx)))) (Qa 2 (a3 (Yu m c h5) 2 3 5) (Qa 1 (a3 (Yu m c h5) 2 3 5) (Qa 0 (a0 (Yt m c)) nx))))) (by kernel_rfl) ?_
  rw [K19_12_eq m c h5 h10 ]
  kernel_rfl
noncomputable def L19_10_b (m:Nat) (c:Qd) (h5:AV→AV→AV→Kt) (h10:AV→AV→AV→AV→Kt) (t2 t3 t5 t6:AV):Kt:=
 bnd (Qh (C m) 58 t2 2) fun v0=>
 bnd (ldO (C m) 56 v0) fun v1=>
 bnd (Q9 (C m) 56 v1 t5) fun v2=>
 bnd (ldO (C m) 95 v2) fun v3=>
 bnd (Qv (C m) .len [95] [v3]) fun v4=>
 bnd (Qi (C m) .lss 3 t6 v4) fun v5=>
 ifB v5
 ((K19_11 m c h5 h10 t2 t3 t5 t6))
 ((Yu m c h5 t2 t3 t5))
noncomputable def L19_10 (m:Nat) (c:Qd) (h5:AV→AV→AV→Kt) (n:Nat):AV→AV→AV→AV→Kt:=
 Nat.rec (motive:=fun _=>AV→AV→AV→AV→Kt) (fun t2 t3 t5 t6=>noK) (fun _ ih=>L19_10_b m c h5 ih) n
theorem L19_10_b_eq (h5:AV→AV→AV→Kt) (h10:AV→AV→AV→AV→Kt):D19 m c c19_10 (a4 h10 2 3 5 6) (Qa 2 (a3 (Yu m c h5) 2 3 5) (Qa 1 (a3 (Yu m c h5) 2 3 5) (Qa 0 (a0 (Yt m c)) nx))) = fun e=>L19_10_b m c h5 h10 (e 2) (e 3) (e 5) (e 6):=by
  refine Tq (D19 m c (pS1 (pS1 c19_10)) (fun e=>ifB (e 56) ((D19 m c c19_11 (a4 h10 2 3 5 6) (Qa 2 (a3 (Yu m c h5) 2 3 5) (Qa 1 (a3 (Yu m c h5) 2 3 5) (Qa 0 (a0 (Yt m c)) nx)))) e) ((a3 (Yu m c h5) 2 3 5) e)) (Qa 2 (a3 (Yu m c h5) 2 3 5) (Qa 1 (a3 (Yu m c h5) 2 3 5) (Qa 0 (a0 (Yt m c)) nx)))) (by kernel_rfl) ?_
  rw [K19_11_eq m c h5 h10 ]
  kernel_rfl
theorem L19_10_eq (h5:AV→AV→AV→Kt) (n:Nat):(Qn (fun k=>D19 m c c19_10 k (Qa 2 (a3 (Yu m c h5) 2 3 5) (Qa 1 (a3 (Yu m c h5) 2 3 5) (Qa 0 (a0 (Yt m c)) nx)))) n) = (a4 (L19_10 m c h5 n) 2 3 5 6):=by
  induction n with
  | zero=>rfl
  | succ n ih=>
    show D19 m c c19_10 (Qn (fun k=>D19 m c c19_10 k (Qa 2 (a3 (Yu m c h5) 2 3 5) (Qa 1 (a3 (Yu m c h5) 2 3 5) (Qa 0 (a0 (Yt m c)) nx)))) n) (Qa 2 (a3 (Yu m c h5) 2 3 5) (Qa 1 (a3 (Yu m c h5) 2 3 5) (Qa 0 (a0 (Yt m c)) nx))) = _
    rw [ih,L19_10_b_eq m c h5 (L19_10 m c h5 n)]
    rfl
theorem L19_10_succ (h5:AV→AV→AV→Kt) (n:Nat):L19_10 m c h5 (n + 1) = L19_10_b m c h5 (L19_10 m c h5 n):=rfl
noncomputable def K19_9 (m:Nat) (c:Qd) (h5:AV→AV→AV→Kt) (t2 t3 t5 t6:AV):Kt:=
 L19_10 m c h5 m t2 t3 t5 t6
theorem K19_9_eq (h5:AV→AV→AV→Kt):D19 m c c19_9 (a3 (Yu m c h5) 2 3 5) (Qa 1 (a3 (Yu m c h5) 2 3 5) (Qa 0 (a0 (Yt m c)) nx)) = (a4 (K19_9 m c h5) 2 3 5 6):=by
  refine Tq (Qn (fun k=>D19 m c c19_10 k (Qa 2 (a3 (Yu m c h5) 2 3 5) (Qa 1 (a3 (Yu m c h5) 2 3 5) (Qa 0 (a0 (Yt m c)) nx)))) m) (by kernel_rfl) ?_
  rw [L19_10_eq m c h5 m]
  kernel_rfl
noncomputable def K19_8 (m:Nat) (c:Qd) (h5:AV→AV→AV→Kt) (t2 t3 t5:AV):Kt:=
 K19_9 m c h5 t2 t3 t5 (I 0)
theorem K19_8_eq (h5:AV→AV→AV→Kt):D19 m c c19_8 (a3 (Yu m c h5) 2 3 5) (Qa 1 (a3 (Yu m c h5) 2 3 5) (Qa 0 (a0 (Yt m c)) nx)) = (a3 (K19_8 m c h5) 2 3 5):=by
  refine Tq (D19 m c (pS1 c19_8) (D19 m c c19_9 (a3 (Yu m c h5) 2 3 5) (Qa 1 (a3 (Yu m c h5) 2 3 5) (Qa 0 (a0 (Yt m c)) nx))) (Qa 1 (a3 (Yu m c h5) 2 3 5) (Qa 0 (a0 (Yt m c)) nx))) (by kernel_rfl) ?_
  rw [K19_9_eq m c h5 ]
  kernel_rfl
noncomputable def K19_6 (m:Nat) (c:Qd) (h5:AV→AV→AV→Kt) (t2 t3 t5:AV):Kt:=
 dIn fun sv0=>
 Qk (Qh (C m) 58 t2 2) fun v1=>
 Qr (ldO (C m) 56 v1) fun v2=>
 Qk (Q9 (C m) 56 v2 t5) fun v3=>
 Qr (ldO (C m) 95 v3) fun v4=>
 Qr (Qv (C m) .len [95] [v4]) fun v5=>
 Qk (Qh (C m) 58 t3 2) fun v6=>
 Qr (ldO (C m) 56 v6) fun v7=>
 Qk (Q9 (C m) 56 v7 t5) fun v8=>
 Qr (ldO (C m) 95 v8) fun v9=>
 Qr (Qv (C m) .len [95] [v9]) fun v10=>
 Qk (Qi (C m) .neq 3 v5 v10) fun v11=>
 ifB v11
 ((Qo (C m) [(none,(B false))]))
 ((K19_8 m c h5 t2 t3 t5))
theorem K19_6_eq (h5:AV→AV→AV→Kt):D19 m c c19_6 (a3 h5 2 3 5) (Qa 0 (a0 (Yt m c)) nx) = (a3 (K19_6 m c h5) 2 3 5):=by
  refine Tq (D19 m c (pS1 (pS1 (pB (pS1 c19_6)))) (fun e=>ifB (e 48) ((D19 m c (pS1 (pC1 (pS2 (pS1 (pB (pS1 c19_6)))))) (Z19 m) (Qa 1 (D19 m c c19_7 (a3 h5 2 3 5) (Qa 0 (a0 (Yt m c)) nx)) (Qa 0 (a0 (Yt m c)) nx))) e) ((D19 m c c19_8 (D19 m c c19_7 (a3 h5 2 3 5) (Qa 0 (a0 (Yt m c)) nx)) (Qa 1 (D19 m c c19_7 (a3 h5 2 3 5) (Qa 0 (a0 (Yt m c)) nx)) (Qa 0 (a0 (Yt m c)) nx))) e)) (Qa 1 (D19 m c c19_7 (a3 h5 2 3 5) (Qa 0 (a0 (Yt m c)) nx)) (Qa 0 (a0 (Yt m c)) nx))) (by kernel_rfl) ?_
  rw [K19_7_eq m c h5 ,K19_8_eq m c h5 ]
  kernel_rfl
noncomputable def L19_5_b (m:Nat) (c:Qd) (h5:AV→AV→AV→Kt) (t2 t3 t5:AV):Kt:=
 bnd (Qh (C m) 58 t2 2) fun v0=>
 bnd (ldO (C m) 56 v0) fun v1=>
 bnd (Qv (C m) .len [56] [v1]) fun v2=>
 bnd (Qi (C m) .lss 3 t5 v2) fun v3=>
 ifB v3
 ((K19_6 m c h5 t2 t3 t5))
 ((Yt m c))
noncomputable def L19_5 (m:Nat) (c:Qd) (n:Nat):AV→AV→AV→Kt:=
 Nat.rec (motive:=fun _=>AV→AV→AV→Kt) (fun t2 t3 t5=>noK) (fun _ ih=>L19_5_b m c ih) n
theorem L19_5_b_eq (h5:AV→AV→AV→Kt):D19 m c c19_5 (a3 h5 2 3 5) (Qa 0 (a0 (Yt m c)) nx) = fun e=>L19_5_b m c h5 (e 2) (e 3) (e 5):=by
  refine Tq (D19 m c (pS1 (pS1 c19_5)) (fun e=>ifB (e 33) ((D19 m c c19_6 (a3 h5 2 3 5) (Qa 0 (a0 (Yt m c)) nx)) e) ((a0 (Yt m c)) e)) (Qa 0 (a0 (Yt m c)) nx)) (by kernel_rfl) ?_
  rw [K19_6_eq m c h5 ]
  kernel_rfl
theorem L19_5_eq (n:Nat):(Qn (fun k=>D19 m c c19_5 k (Qa 0 (a0 (Yt m c)) nx)) n) = (a3 (L19_5 m c n) 2 3 5):=by
  induction n with
  | zero=>rfl
  | succ n ih=>
    show D19 m c c19_5 (Qn (fun k=>D19 m c c19_5 k (Qa 0 (a0 (Yt m c)) nx)) n) (Qa 0 (a0 (Yt m c)) nx) = _
    rw [ih,L19_5_b_eq m c (L19_5 m c n)]
    rfl
theorem L19_5_succ (n:Nat):L19_5 m c (n + 1) = L19_5_b m c (L19_5 m c n):=rfl
noncomputable def K19_4 (m:Nat) (c:Qd) (t2 t3 t5:AV):Kt:=
 L19_5 m c m t2 t3 t5
theorem K19_4_eq:D19 m c c19_4 (a0 (Yt m c)) nx = (a3 (K19_4 m c) 2 3 5):=by
  refine Tq (Qn (fun k=>D19 m c c19_5 k (Qa 0 (a0 (Yt m c)) nx)) m) (by kernel_rfl) ?_
  rw [L19_5_eq m c m]
  kernel_rfl
noncomputable def K19_2 (m:Nat) (c:Qd) (t2 t3:AV):Kt:=
 K19_4 m c t2 t3 (I 0)
theorem K19_2_eq:D19 m c c19_2 (Z19 m) nx = (a2 (K19_2 m c) 2 3):=by
  refine Tq (D19 m c (pS1 (pS1 c19_2)) (D19 m c c19_4 (D19 m c c19_3 (Z19 m) nx) nx) nx) (by kernel_rfl) ?_
  rw [K19_3_eq m c ,K19_4_eq m c ]
  kernel_rfl
noncomputable def K19_1 (m:Nat) (c:Qd) (t2 t3:AV):Kt:=
 bnd (Qh (C m) 58 t2 0) fun v0=>
 bnd (ldO (C m) 22 v0) fun v1=>
 bnd (Qh (C m) 58 t3 0) fun v2=>
 bnd (ldO (C m) 22 v2) fun v3=>
 bnd (Qi (C m) .neq 22 v1 v3) fun v4=>
 bnd (gdO (Qc v4 false) (Qh (C m) 58 t2 1)) fun v5=>
 bnd (gdO (Qc v4 false) (ldO (C m) 55 v5)) fun v6=>
 bnd (gdO (Qc v4 false) (Qh (C m) 58 t3 1)) fun v7=>
 bnd (gdO (Qc v4 false) (ldO (C m) 55 v7)) fun v8=>
 bnd (gdO (Qc v4 false) (Qy (C m) c (fnV 44) [v6,v8])) fun v9=>
 bnd (gdO (Qc v4 false) (unO .not v9)) fun v10=>
 bnd (Qm v4 (B true) v10) fun v11=>
 bnd (gdO (Qc v11 false) (Qh (C m) 58 t2 2)) fun v12=>
 bnd (gdO (Qc v11 false) (ldO (C m) 56 v12)) fun v13=>
 bnd (gdO (Qc v11 false) (Qv (C m) .len [56] [v13])) fun v14=>
 bnd (gdO (Qc v11 false) (Qh (C m) 58 t3 2)) fun v15=>
 bnd (gdO (Qc v11 false) (ldO (C m) 56 v15)) fun v16=>
 bnd (gdO (Qc v11 false) (Qv (C m) .len [56] [v16])) fun v17=>
 bnd (gdO (Qc v11 false) (Qi (C m) .neq 3 v14 v17)) fun v18=>
 bnd (Qm v11 (B true) v18) fun v19=>
 ifB v19
 ((Qo (C m) [(none,(B false))]))
 ((K19_2 m c t2 t3))
theorem K19_1_eq:D19 m c c19_1 (Z19 m) nx = (a2 (K19_1 m c) 2 3):=by
  refine Tq (D19 m c (pS1 (pS1 c19_1)) (fun e=>ifB (e 28) ((D19 m c (pS1 (pC1 (pS2 (pS1 c19_1)))) (Z19 m) nx) e) ((D19 m c c19_2 (Z19 m) nx) e)) nx) (by kernel_rfl) ?_
  rw [K19_2_eq m c ]
  kernel_rfl
noncomputable def K19_0 (m:Nat) (c:Qd) (t0 t1:AV):Kt:=
 bnd (Z2 58 t0) fun v0=>
 bnd (Z2 58 t1) fun v1=>
 K19_1 m c v0 v1
theorem K19_0_eq:D19 m c c19_0 (Z19 m) nx = (a2 (K19_0 m c) 0 1):=by
  refine Tq (D19 m c (pS1 c19_0) (D19 m c c19_1 (Z19 m) nx) nx) (by kernel_rfl) ?_
  rw [K19_1_eq m c ]
  kernel_rfl
theorem F19_eq (t0 t1:AV):Qu (C m) c Tryz.f19 [t0,t1] = K19_0 m c t0 t1:=by
  refine Tq ((D19 m c c19_0 (Z19 m) nx) (Xl [t0,t1])) (by kernel_rfl) ?_
  rw [K19_0_eq m c]
  rfl
noncomputable def c44_0:Code:=(Qw Tryz.f44)
noncomputable def c44_1:Code:=(pS2 c44_0)
noncomputable def c44_2:Code:=(pS2 c44_1)
noncomputable def c44_3:Code:=(pS2 c44_2)
noncomputable def c44_4:Code:=(pS2 (pS1 c44_2))
noncomputable def c44_5:Code:=(pL (pB c44_4))
noncomputable def c44_6:Code:=(pS2 c44_5)
noncomputable def c44_7:Code:=(pS2 c44_6)
noncomputable def Z44 (m:Nat):=fun (e:Nat→AV)=>Qo (C m) (Xh e Tryz.f44.results.toList)
noncomputable def D44 (m:Nat) (c:Qd) (p:Code) (k:TE→Kt) (x:Nat→TE→Kt):=Q2 p (C m) c k x (Z44 m)
noncomputable def Jr (m:Nat) (c:Qd):Kt:=
 Qo (C m) [(none,(B true))]
theorem K44_3_eq:D44 m c c44_3 (Z44 m) nx = (a0 (Jr m c)):=by
  refine Tq (D44 m c (pS1 c44_3) (Z44 m) nx) (by kernel_rfl) ?_
  kernel_rfl
noncomputable def K44_7 (m:Nat) (c:Qd) (h5:AV→AV→AV→Kt) (t2 t3 t5:AV):Kt:=
 bnd (Qi (C m) .add 3 t5 (I 1)) fun v0=>
 h5 t2 t3 v0
theorem K44_7_eq (h5:AV→AV→AV→Kt):D44 m c c44_7 (a3 h5 2 3 5) (Qa 0 (a0 (Jr m c)) nx) = (a3 (K44_7 m c h5) 2 3 5):=by
  kernel_rfl
noncomputable def K44_6 (m:Nat) (c:Qd) (h5:AV→AV→AV→Kt) (t2 t3 t5:AV):Kt:=
 dIn fun sv0=>
 Qk (Qh (C m) 55 t2 2) fun v1=>
 Qr (ldO (C m) 32 v1) fun v2=>
 Qk (Q9 (C m) 32 v2 t5) fun v3=>
 Qr (ldO (C m) 4 v3) fun v4=>
 Qk (Qh (C m) 55 t3 2) fun v5=>
 Qr (ldO (C m) 32 v5) fun v6=>
 Qk (Q9 (C m) 32 v6 t5) fun v7=>
 Qr (ldO (C m) 4 v7) fun v8=>
 Qk (Qi (C m) .neq 4 v4 v8) fun v9=>
 ifB v9
 ((Qo (C m) [(none,(B false))]))
 ((K44_7 m c h5 t2 t3 t5))
theorem K44_6_eq (h5:AV→AV→AV→Kt):D44 m c c44_6 (a3 h5 2 3 5) (Qa 0 (a0 (Jr m c)) nx) = (a3 (K44_6 m c h5) 2 3 5):=by
  refine Tq (D44 m c (pS1 (pB (pS1 c44_6))) (fun e=>ifB (e 44) ((D44 m c (pS1 (pC1 (pS2 (pB (pS1 c44_6))))) (Z44 m) (Qa 1 (D44 m c c44_7 (a3 h5 2 3 5) (Qa 0 (a0 (Jr m c)) nx)) (Qa 0 (a0 (Jr m c)) nx))) e) ((D44 m c c44_7 (a3 h5 2 3 5) (Qa 0 (a0 (Jr m c)) nx)) e)) (Qa 1 (D44 m c c44_7 (a3 h5 2 3 5) (Qa 0 (a0 (Jr m c)) nx)) (Qa 0 (a0 (Jr m c)) nx))) (by kernel_rfl) ?_
  rw [K44_7_eq m c h5 ]
  kernel_rfl
noncomputable def L44_5_b (m:Nat) (c:Qd) (h5:AV→AV→AV→Kt) (t2 t3 t5:AV):Kt:=
 bnd (Qh (C m) 55 t2 2) fun v0=>
 bnd (ldO (C m) 32 v0) fun v1=>
 bnd (Qv (C m) .len [32] [v1]) fun v2=>
 bnd (Qi (C m) .lss 3 t5 v2) fun v3=>
 ifB v3
 ((K44_6 m c h5 t2 t3 t5))
 ((Jr m c))
noncomputable def L44_5 (m:Nat) (c:Qd) (n:Nat):AV→AV→AV→Kt:=
 Nat.rec (motive:=fun _=>AV→AV→AV→Kt) (fun t2 t3 t5=>noK) (fun _ ih=>L44_5_b m c ih) n
theorem L44_5_b_eq (h5:AV→AV→AV→Kt):D44 m c c44_5 (a3 h5 2 3 5) (Qa 0 (a0 (Jr m c)) nx) = fun e=>L44_5_b m c h5 (e 2) (e 3) (e 5):=by
  refine Tq (D44 m c (pS1 (pS1 c44_5)) (fun e=>ifB (e 31) ((D44 m c c44_6 (a3 h5 2 3 5) (Qa 0 (a0 (Jr m c)) nx)) e) ((a0 (Jr m c)) e)) (Qa 0 (a0 (Jr m c)) nx)) (by kernel_rfl) ?_
  rw [K44_6_eq m c h5 ]
  kernel_rfl
theorem L44_5_eq (n:Nat):(Qn (fun k=>D44 m c c44_5 k (Qa 0 (a0 (Jr m c)) nx)) n) = (a3 (L44_5 m c n) 2 3 5):=by
  induction n with
  | zero=>rfl
  | succ n ih=>
    show D44 m c c44_5 (Qn (fun k=>D44 m c c44_5 k (Qa 0 (a0 (Jr m c)) nx)) n) (Qa 0 (a0 (Jr m c)) nx) = _
    rw [ih,L44_5_b_eq m c (L44_5 m c n)]
    rfl
theorem L44_5_succ (n:Nat):L44_5 m c (n + 1) = L44_5_b m c (L44_5 m c n):=rfl
noncomputable def K44_4 (m:Nat) (c:Qd) (t2 t3 t5:AV):Kt:=
 L44_5 m c m t2 t3 t5
theorem K44_4_eq:D44 m c c44_4 (a0 (Jr m c)) nx = (a3 (K44_4 m c) 2 3 5):=by
  refine Tq (Qn (fun k=>D44 m c c44_5 k (Qa 0 (a0 (Jr m c)) nx)) m) (by kernel_rfl) ?_
  rw [L44_5_eq m c m]
  kernel_rfl
noncomputable def K44_2 (m:Nat) (c:Qd) (t2 t3:AV):Kt:=
 K44_4 m c t2 t3 (I 0)
theorem K44_2_eq:D44 m c c44_2 (Z44 m) nx = (a2 (K44_2 m c) 2 3):=by
  refine Tq (D44 m c (pS1 (pS1 c44_2)) (D44 m c c44_4 (D44 m c c44_3 (Z44 m) nx) nx) nx) (by kernel_rfl) ?_
  rw [K44_3_eq m c ,K44_4_eq m c ]
  kernel_rfl
noncomputable def K44_1 (m:Nat) (c:Qd) (t2 t3:AV):Kt:=
 bnd (Qh (C m) 55 t2 0) fun v0=>
 bnd (ldO (C m) 22 v0) fun v1=>
 bnd (Qh (C m) 55 t3 0) fun v2=>
 bnd (ldO (C m) 22 v2) fun v3=>
 bnd (Qi (C m) .neq 22 v1 v3) fun v4=>
 bnd (gdO (Qc v4 false) (Qh (C m) 55 t2 1)) fun v5=>
 bnd (gdO (Qc v4 false) (ldO (C m) 3 v5)) fun v6=>
 bnd (gdO (Qc v4 false) (Qh (C m) 55 t3 1)) fun v7=>
 bnd (gdO (Qc v4 false) (ldO (C m) 3 v7)) fun v8=>
 bnd (gdO (Qc v4 false) (Qi (C m) .neq 3 v6 v8)) fun v9=>
 bnd (Qm v4 (B true) v9) fun v10=>
 bnd (gdO (Qc v10 false) (Qh (C m) 55 t2 2)) fun v11=>
 bnd (gdO (Qc v10 false) (ldO (C m) 32 v11)) fun v12=>
 bnd (gdO (Qc v10 false) (Qv (C m) .len [32] [v12])) fun v13=>
 bnd (gdO (Qc v10 false) (Qh (C m) 55 t3 2)) fun v14=>
 bnd (gdO (Qc v10 false) (ldO (C m) 32 v14)) fun v15=>
 bnd (gdO (Qc v10 false) (Qv (C m) .len [32] [v15])) fun v16=>
 bnd (gdO (Qc v10 false) (Qi (C m) .neq 3 v13 v16)) fun v17=>
 bnd (Qm v10 (B true) v17) fun v18=>
 ifB v18
 ((Qo (C m) [(none,(B false))]))
 ((K44_2 m c t2 t3))
theorem K44_1_eq:D44 m c c44_1 (Z44 m) nx = (a2 (K44_1 m c) 2 3):=by
  refine Tq (D44 m c (pS1 (pS1 c44_1)) (fun e=>ifB (e 26) ((D44 m c (pS1 (pC1 (pS2 (pS1 c44_1)))) (Z44 m) nx) e) ((D44 m c c44_2 (Z44 m) nx) e)) nx) (by kernel_rfl) ?_
  rw [K44_2_eq m c ]
  kernel_rfl
noncomputable def K44_0 (m:Nat) (c:Qd) (t0 t1:AV):Kt:=
 bnd (Z2 55 t0) fun v0=>
 bnd (Z2 55 t1) fun v1=>
 K44_1 m c v0 v1
theorem K44_0_eq:D44 m c c44_0 (Z44 m) nx = (a2 (K44_0 m c) 0 1):=by
  refine Tq (D44 m c (pS1 c44_0) (D44 m c c44_1 (Z44 m) nx) nx) (by kernel_rfl) ?_
  rw [K44_1_eq m c ]
  kernel_rfl
theorem F44_eq (t0 t1:AV):Qu (C m) c Tryz.f44 [t0,t1] = K44_0 m c t0 t1:=by
  refine Tq ((D44 m c c44_0 (Z44 m) nx) (Xl [t0,t1])) (by kernel_rfl) ?_
  rw [K44_0_eq m c]
  rfl
noncomputable def c20_0:Code:=(Qw Tryz.f20)
noncomputable def c20_1:Code:=(pS2 c20_0)
noncomputable def c20_2:Code:=(pS2 c20_1)
noncomputable def c20_3:Code:=(pS2 c20_2)
noncomputable def c20_4:Code:=(pS2 (pS1 c20_2))
noncomputable def c20_5:Code:=(pL (pB c20_4))
noncomputable def c20_6:Code:=(pS2 c20_5)
noncomputable def c20_7:Code:=(pS2 c20_6)
noncomputable def Z20 (m:Nat):=fun (e:Nat→AV)=>Qo (C m) (Xh e Tryz.f20.results.toList)
noncomputable def D20 (m:Nat) (c:Qd) (p:Code) (k:TE→Kt) (x:Nat→TE→Kt):=Q2 p (C m) c k x (Z20 m)
noncomputable def Js (m:Nat) (c:Qd):Kt:=
 Qo (C m) [(none,(B true))]
theorem K20_3_eq:D20 m c c20_3 (Z20 m) nx = (a0 (Js m c)):=by
  refine Tq (D20 m c (pS1 c20_3) (Z20 m) nx) (by kernel_rfl) ?_
  kernel_rfl
noncomputable def K20_7 (m:Nat) (c:Qd) (h5:AV→AV→AV→Kt) (t2 t3 t5:AV):Kt:=
 bnd (Qi (C m) .add 3 t5 (I 1)) fun v0=>
 h5 t2 t3 v0
theorem K20_7_eq (h5:AV→AV→AV→Kt):D20 m c c20_7 (a3 h5 2 3 5) (Qa 0 (a0 (Js m c)) nx) = (a3 (K20_7 m c h5) 2 3 5):=by
  kernel_rfl
noncomputable def K20_6 (m:Nat) (c:Qd) (h5:AV→AV→AV→Kt) (t2 t3 t5:AV):Kt:=
 dIn fun sv0=>
 Qk (Qh (C m) 61 t2 2) fun v1=>
 Qr (ldO (C m) 59 v1) fun v2=>
 Qk (Q9 (C m) 59 v2 t5) fun v3=>
 Qk (Qh (C m) 107 v3 0) fun v4=>
 Qr (ldO (C m) 104 v4) fun v5=>
 Qk (Qh (C m) 61 t3 2) fun v6=>
 Qr (ldO (C m) 59 v6) fun v7=>
 Qk (Q9 (C m) 59 v7 t5) fun v8=>
 Qk (Qh (C m) 107 v8 0) fun v9=>
 Qr (ldO (C m) 104 v9) fun v10=>
 Xn (Qy (C m) c (fnV 45) [v5,v10]) fun v11 sv11=>
 Qk (unO .not v11) fun v12=>
 Qk (gdO (Qc v12 false) (Qh (C m) 61 t2 2)) fun v13=>
 Qr (gdO (Qc v12 false) (ldO (C m) 59 v13)) fun v14=>
 Qk (gdO (Qc v12 false) (fun _=>.val t5)) fun v15=>
 Qk (gdO (Qc v12 false) (Q9 (C m) 59 v14 v15)) fun v16=>
 Qk (gdO (Qc v12 false) (Qh (C m) 107 v16 1)) fun v17=>
 Qr (gdO (Qc v12 false) (ldO (C m) 105 v17)) fun v18=>
 Qk (gdO (Qc v12 false) (Qh (C m) 61 t3 2)) fun v19=>
 Qr (gdO (Qc v12 false) (ldO (C m) 59 v19)) fun v20=>
 Qk (gdO (Qc v12 false) (fun _=>.val t5)) fun v21=>
 Qk (gdO (Qc v12 false) (Q9 (C m) 59 v20 v21)) fun v22=>
 Qk (gdO (Qc v12 false) (Qh (C m) 107 v22 1)) fun v23=>
 Qr (gdO (Qc v12 false) (ldO (C m) 105 v23)) fun v24=>
 Xn (gdO (Qc v12 false) (Qy (C m) c (fnV 46) [v18,v24])) fun v25 sv25=>
 Qk (gdO (Qc v12 false) (unO .not v25)) fun v26=>
 Qk (Qm v12 (B true) v26) fun v27=>
 ifB v27
 ((Qo (C m) [(none,(B false))]))
 ((K20_7 m c h5 t2 t3 t5))
theorem K20_6_eq (h5:AV→AV→AV→Kt):D20 m c c20_6 (a3 h5 2 3 5) (Qa 0 (a0 (Js m c)) nx) = (a3 (K20_6 m c h5) 2 3 5):=by
  refine Tq (D20 m c (pS1 (pB (pS1 c20_6))) (fun e=>ifB (e 63) ((D20 m c (pS1 (pC1 (pS2 (pB (pS1 c20_6))))) (Z20 m) (Qa 1 (D20 m c c20_7 (a3 h5 2 3 5) (Qa 0 (a0 (Js m c)) nx)) (Qa 0 (a0 (Js m c)) nx))) e) ((D20 m c c20_7 (a3 h5 2 3 5) (Qa 0 (a0 (Js m c)) nx)) e)) (Qa 1 (D20 m c c20_7 (a3 h5 2 3 5) (Qa 0 (a0 (Js m c)) nx)) (Qa 0 (a0 (Js m c)) nx))) (by kernel_rfl) ?_
  rw [K20_7_eq m c h5 ]
  kernel_rfl
noncomputable def L20_5_b (m:Nat) (c:Qd) (h5:AV→AV→AV→Kt) (t2 t3 t5:AV):Kt:=
 bnd (Qh (C m) 61 t2 2) fun v0=>
 bnd (ldO (C m) 59 v0) fun v1=>
 bnd (Qv (C m) .len [59] [v1]) fun v2=>
 bnd (Qi (C m) .lss 3 t5 v2) fun v3=>
 ifB v3
 ((K20_6 m c h5 t2 t3 t5))
 ((Js m c))
noncomputable def L20_5 (m:Nat) (c:Qd) (n:Nat):AV→AV→AV→Kt:=
 Nat.rec (motive:=fun _=>AV→AV→AV→Kt) (fun t2 t3 t5=>noK) (fun _ ih=>L20_5_b m c ih) n
theorem L20_5_b_eq (h5:AV→AV→AV→Kt):D20 m c c20_5 (a3 h5 2 3 5) (Qa 0 (a0 (Js m c)) nx) = fun e=>L20_5_b m c h5 (e 2) (e 3) (e 5):=by
  refine Tq (D20 m c (pS1 (pS1 c20_5)) (fun e=>ifB (e 31) ((D20 m c c20_6 (a3 h5 2 3 5) (Qa 0 (a0 (Js m c)) nx)) e) ((a0 (Js m c)) e)) (Qa 0 (a0 (Js m c)) nx)) (by kernel_rfl) ?_
  rw [K20_6_eq m c h5 ]
  kernel_rfl
theorem L20_5_eq (n:Nat):(Qn (fun k=>D20 m c c20_5 k (Qa 0 (a0 (Js m c)) nx)) n) = (a3 (L20_5 m c n) 2 3 5):=by
  induction n with
  | zero=>rfl
  | succ n ih=>
    show D20 m c c20_5 (Qn (fun k=>D20 m c c20_5 k (Qa 0 (a0 (Js m c)) nx)) n) (Qa 0 (a0 (Js m c)) nx) = _
    rw [ih,L20_5_b_eq m c (L20_5 m c n)]
    rfl
theorem L20_5_succ (n:Nat):L20_5 m c (n + 1) = L20_5_b m c (L20_5 m c n):=rfl
noncomputable def K20_4 (m:Nat) (c:Qd) (t2 t3 t5:AV):Kt:=
 L20_5 m c m t2 t3 t5
theorem K20_4_eq:D20 m c c20_4 (a0 (Js m c)) nx = (a3 (K20_4 m c) 2 3 5):=by
  refine Tq (Qn (fun k=>D20 m c c20_5 k (Qa 0 (a0 (Js m c)) nx)) m) (by kernel_rfl) ?_
  rw [L20_5_eq m c m]
  kernel_rfl
noncomputable def K20_2 (m:Nat) (c:Qd) (t2 t3:AV):Kt:=
 K20_4 m c t2 t3 (I 0)
theorem K20_2_eq:D20 m c c20_2 (Z20 m) nx = (a2 (K20_2 m c) 2 3):=by
  refine Tq (D20 m c (pS1 (pS1 c20_2)) (D20 m c c20_4 (D20 m c c20_3 (Z20 m) nx) nx) nx) (by kernel_rfl) ?_
  rw [K20_3_eq m c ,K20_4_eq m c ]
  kernel_rfl
noncomputable def K20_1 (m:Nat) (c:Qd) (t2 t3:AV):Kt:=
 bnd (Qh (C m) 61 t2 0) fun v0=>
 bnd (ldO (C m) 22 v0) fun v1=>
 bnd (Qh (C m) 61 t3 0) fun v2=>
 bnd (ldO (C m) 22 v2) fun v3=>
 bnd (Qi (C m) .neq 22 v1 v3) fun v4=>
 bnd (gdO (Qc v4 false) (Qh (C m) 61 t2 1)) fun v5=>
 bnd (gdO (Qc v4 false) (ldO (C m) 3 v5)) fun v6=>
 bnd (gdO (Qc v4 false) (Qh (C m) 61 t3 1)) fun v7=>
 bnd (gdO (Qc v4 false) (ldO (C m) 3 v7)) fun v8=>
 bnd (gdO (Qc v4 false) (Qi (C m) .neq 3 v6 v8)) fun v9=>
 bnd (Qm v4 (B true) v9) fun v10=>
 bnd (gdO (Qc v10 false) (Qh (C m) 61 t2 2)) fun v11=>
 bnd (gdO (Qc v10 false) (ldO (C m) 59 v11)) fun v12=>
 bnd (gdO (Qc v10 false) (Qv (C m) .len [59] [v12])) fun v13=>
 bnd (gdO (Qc v10 false) (Qh (C m) 61 t3 2)) fun v14=>
 bnd (gdO (Qc v10 false) (ldO (C m) 59 v14)) fun v15=>
 bnd (gdO (Qc v10 false) (Qv (C m) .len [59] [v15])) fun v16=>
 bnd (gdO (Qc v10 false) (Qi (C m) .neq 3 v13 v16)) fun v17=>
 bnd (Qm v10 (B true) v17) fun v18=>
 ifB v18
 ((Qo (C m) [(none,(B false))]))
 ((K20_2 m c t2 t3))
theorem K20_1_eq:D20 m c c20_1 (Z20 m) nx = (a2 (K20_1 m c) 2 3):=by
  refine Tq (D20 m c (pS1 (pS1 c20_1)) (fun e=>ifB (e 26) ((D20 m c (pS1 (pC1 (pS2 (pS1 c20_1)))) (Z20 m) nx) e) ((D20 m c c20_2 (Z20 m) nx) e)) nx) (by kernel_rfl) ?_
  rw [K20_2_eq m c ]
  kernel_rfl
noncomputable def K20_0 (m:Nat) (c:Qd) (t0 t1:AV):Kt:=
 bnd (Z2 61 t0) fun v0=>
 bnd (Z2 61 t1) fun v1=>
 K20_1 m c v0 v1
theorem K20_0_eq:D20 m c c20_0 (Z20 m) nx = (a2 (K20_0 m c) 0 1):=by
  refine Tq (D20 m c (pS1 c20_0) (D20 m c c20_1 (Z20 m) nx) nx) (by kernel_rfl) ?_
  rw [K20_1_eq m c ]
  kernel_rfl
theorem F20_eq (t0 t1:AV):Qu (C m) c Tryz.f20 [t0,t1] = K20_0 m c t0 t1:=by
  refine Tq ((D20 m c c20_0 (Z20 m) nx) (Xl [t0,t1])) (by kernel_rfl) ?_
  rw [K20_0_eq m c]
  rfl
noncomputable def c45_0:Code:=(Qw Tryz.f45)
noncomputable def Z45 (m:Nat):=fun (e:Nat→AV)=>Qo (C m) (Xh e Tryz.f45.results.toList)
noncomputable def D45 (m:Nat) (c:Qd) (p:Code) (k:TE→Kt) (x:Nat→TE→Kt):=Q2 p (C m) c k x (Z45 m)
noncomputable def K45_0 (m:Nat) (c:Qd) (t0 t1:AV):Kt:=
 bnd (Z2 104 t0) fun v0=>
 bnd (Z2 104 t1) fun v1=>
 bnd (Qh (C m) 104 v0 0) fun v2=>
 bnd (ldO (C m) 22 v2) fun v3=>
 bnd (Qh (C m) 104 v1 0) fun v4=>
 bnd (ldO (C m) 22 v4) fun v5=>
 bnd (Qi (C m) .eql 22 v3 v5) fun v6=>
 bnd (gdO (Qc v6 true) (Qh (C m) 104 v0 1)) fun v7=>
 bnd (gdO (Qc v6 true) (ldO (C m) 27 v7)) fun v8=>
 bnd (gdO (Qc v6 true) (Qh (C m) 104 v1 1)) fun v9=>
 bnd (gdO (Qc v6 true) (ldO (C m) 27 v9)) fun v10=>
 bnd (gdO (Qc v6 true) (Qy (C m) c (fnV 88) [v8,v10])) fun v11=>
 bnd (Qm v6 v11 (B false)) fun v12=>
 Qo (C m) [(none,v12)]
theorem K45_0_eq:D45 m c c45_0 (Z45 m) nx = (a2 (K45_0 m c) 0 1):=by
  refine Tq (D45 m c (pS1 c45_0) (D45 m c (pS1 (pS2 c45_0)) (Z45 m) nx) nx) (by kernel_rfl) ?_
  kernel_rfl
theorem F45_eq (t0 t1:AV):Qu (C m) c Tryz.f45 [t0,t1] = K45_0 m c t0 t1:=by
  refine Tq ((D45 m c c45_0 (Z45 m) nx) (Xl [t0,t1])) (by kernel_rfl) ?_
  rw [K45_0_eq m c]
  rfl
noncomputable def c46_0:Code:=(Qw Tryz.f46)
noncomputable def c46_1:Code:=(pS2 c46_0)
noncomputable def c46_2:Code:=(pS2 c46_1)
noncomputable def c46_3:Code:=(pS2 c46_2)
noncomputable def c46_4:Code:=(pS2 (pS1 c46_2))
noncomputable def c46_5:Code:=(pL (pB c46_4))
noncomputable def c46_6:Code:=(pS2 c46_5)
noncomputable def c46_7:Code:=(pS2 c46_6)
noncomputable def Z46 (m:Nat):=fun (e:Nat→AV)=>Qo (C m) (Xh e Tryz.f46.results.toList)
noncomputable def D46 (m:Nat) (c:Qd) (p:Code) (k:TE→Kt) (x:Nat→TE→Kt):=Q2 p (C m) c k x (Z46 m)
noncomputable def Jt (m:Nat) (c:Qd):Kt:=
 Qo (C m) [(none,(B true))]
theorem K46_3_eq:D46 m c c46_3 (Z46 m) nx = (a0 (Jt m c)):=by
  refine Tq (D46 m c (pS1 c46_3) (Z46 m) nx) (by kernel_rfl) ?_
  kernel_rfl
noncomputable def K46_7 (m:Nat) (c:Qd) (h5:AV→AV→AV→Kt) (t0 t1 t5:AV):Kt:=
 bnd (Qi (C m) .add 3 t5 (I 1)) fun v0=>
 h5 t0 t1 v0
theorem K46_7_eq (h5:AV→AV→AV→Kt):D46 m c c46_7 (a3 h5 0 1 5) (Qa 0 (a0 (Jt m c)) nx) = (a3 (K46_7 m c h5) 0 1 5):=by
  kernel_rfl
noncomputable def K46_6 (m:Nat) (c:Qd) (h5:AV→AV→AV→Kt) (t0 t1 t5:AV):Kt:=
 dIn fun sv0=>
 Qk (Q9 (C m) 105 t0 t5) fun v1=>
 Qr (ldO (C m) 110 v1) fun v2=>
 Qk (Q9 (C m) 105 t1 t5) fun v3=>
 Qr (ldO (C m) 110 v3) fun v4=>
 Qk (Qi (C m) .neq 110 v2 v4) fun v5=>
 ifB v5
 ((Qo (C m) [(none,(B false))]))
 ((K46_7 m c h5 t0 t1 t5))
theorem K46_6_eq (h5:AV→AV→AV→Kt):D46 m c c46_6 (a3 h5 0 1 5) (Qa 0 (a0 (Jt m c)) nx) = (a3 (K46_6 m c h5) 0 1 5):=by
  refine Tq (D46 m c (pS1 (pB (pS1 c46_6))) (fun e=>ifB (e 25) ((D46 m c (pS1 (pC1 (pS2 (pB (pS1 c46_6))))) (Z46 m) (Qa 1 (D46 m c c46_7 (a3 h5 0 1 5) (Qa 0 (a0 (Jt m c)) nx)) (Qa 0 (a0 (Jt m c)) nx))) e) ((D46 m c c46_7 (a3 h5 0 1 5) (Qa 0 (a0 (Jt m c)) nx)) e)) (Qa 1 (D46 m c c46_7 (a3 h5 0 1 5) (Qa 0 (a0 (Jt m c)) nx)) (Qa 0 (a0 (Jt m c)) nx))) (by kernel_rfl) ?_
  rw [K46_7_eq m c h5 ]
  kernel_rfl
noncomputable def L46_5_b (m:Nat) (c:Qd) (h5:AV→AV→AV→Kt) (t0 t1 t5:AV):Kt:=
 bnd (Qv (C m) .len [105] [t0]) fun v0=>
 bnd (Qi (C m) .lss 3 t5 v0) fun v1=>
 ifB v1
 ((K46_6 m c h5 t0 t1 t5))
 ((Jt m c))
noncomputable def L46_5 (m:Nat) (c:Qd) (n:Nat):AV→AV→AV→Kt:=
 Nat.rec (motive:=fun _=>AV→AV→AV→Kt) (fun t0 t1 t5=>noK) (fun _ ih=>L46_5_b m c ih) n
theorem L46_5_b_eq (h5:AV→AV→AV→Kt):D46 m c c46_5 (a3 h5 0 1 5) (Qa 0 (a0 (Jt m c)) nx) = fun e=>L46_5_b m c h5 (e 0) (e 1) (e 5):=by
  refine Tq (D46 m c (pS1 (pS1 c46_5)) (fun e=>ifB (e 14) ((D46 m c c46_6 (a3 h5 0 1 5) (Qa 0 (a0 (Jt m c)) nx)) e) ((a0 (Jt m c)) e)) (Qa 0 (a0 (Jt m c)) nx)) (by kernel_rfl) ?_
  rw [K46_6_eq m c h5 ]
  kernel_rfl
theorem L46_5_eq (n:Nat):(Qn (fun k=>D46 m c c46_5 k (Qa 0 (a0 (Jt m c)) nx)) n) = (a3 (L46_5 m c n) 0 1 5):=by
  induction n with
  | zero=>rfl
  | succ n ih=>
    show D46 m c c46_5 (Qn (fun k=>D46 m c c46_5 k (Qa 0 (a0 (Jt m c)) nx)) n) (Qa 0 (a0 (Jt m c)) nx) = _
    rw [ih,L46_5_b_eq m c (L46_5 m c n)]
    rfl
theorem L46_5_succ (n:Nat):L46_5 m c (n + 1) = L46_5_b m c (L46_5 m c n):=rfl
noncomputable def K46_4 (m:Nat) (c:Qd) (t0 t1 t5:AV):Kt:=
 L46_5 m c m t0 t1 t5
theorem K46_4_eq:D46 m c c46_4 (a0 (Jt m c)) nx = (a3 (K46_4 m c) 0 1 5):=by
  refine Tq (Qn (fun k=>D46 m c c46_5 k (Qa 0 (a0 (Jt m c)) nx)) m) (by kernel_rfl) ?_
  rw [L46_5_eq m c m]
  kernel_rfl
noncomputable def K46_2 (m:Nat) (c:Qd) (t0 t1:AV):Kt:=
 K46_4 m c t0 t1 (I 0)
theorem K46_2_eq:D46 m c c46_2 (Z46 m) nx = (a2 (K46_2 m c) 0 1):=by
  refine Tq (D46 m c (pS1 (pS1 c46_2)) (D46 m c c46_4 (D46 m c c46_3 (Z46 m) nx) nx) nx) (by kernel_rfl) ?_
  rw [K46_3_eq m c ,K46_4_eq m c ]
  kernel_rfl
noncomputable def K46_1 (m:Nat) (c:Qd) (t0 t1:AV):Kt:=
 bnd (Qv (C m) .len [105] [t0]) fun v0=>
 bnd (Qv (C m) .len [105] [t1]) fun v1=>
 bnd (Qi (C m) .neq 3 v0 v1) fun v2=>
 ifB v2
 ((Qo (C m) [(none,(B false))]))
 ((K46_2 m c t0 t1))
theorem K46_1_eq:D46 m c c46_1 (Z46 m) nx = (a2 (K46_1 m c) 0 1):=by
  refine Tq (D46 m c (pS1 (pS1 c46_1)) (fun e=>ifB (e 10) ((D46 m c (pS1 (pC1 (pS2 (pS1 c46_1)))) (Z46 m) nx) e) ((D46 m c c46_2 (Z46 m) nx) e)) nx) (by kernel_rfl) ?_
  rw [K46_2_eq m c ]
  kernel_rfl
noncomputable def K46_0 (m:Nat) (c:Qd) (t0 t1:AV):Kt:=
 K46_1 m c t0 t1
theorem K46_0_eq:D46 m c c46_0 (Z46 m) nx = (a2 (K46_0 m c) 0 1):=by
  refine Tq (D46 m c (pS1 c46_0) (D46 m c c46_1 (Z46 m) nx) nx) (by kernel_rfl) ?_
  rw [K46_1_eq m c ]
  kernel_rfl
theorem F46_eq (t0 t1:AV):Qu (C m) c Tryz.f46 [t0,t1] = K46_0 m c t0 t1:=by
  refine Tq ((D46 m c c46_0 (Z46 m) nx) (Xl [t0,t1])) (by kernel_rfl) ?_
  rw [K46_0_eq m c]
  rfl
noncomputable def c21_0:Code:=(Qw Tryz.f21)
noncomputable def c21_1:Code:=(pS2 c21_0)
noncomputable def c21_2:Code:=(pS2 c21_1)
noncomputable def c21_3:Code:=(pS2 c21_2)
noncomputable def c21_4:Code:=(pS2 (pS1 c21_2))
noncomputable def c21_5:Code:=(pL (pB c21_4))
noncomputable def c21_6:Code:=(pS2 c21_5)
noncomputable def c21_7:Code:=(pS2 c21_6)
noncomputable def c21_8:Code:=(pS2 (pB (pS1 c21_6)))
noncomputable def c21_9:Code:=(pS2 c21_8)
noncomputable def c21_10:Code:=(pL (pB c21_9))
noncomputable def c21_11:Code:=(pS2 c21_10)
noncomputable def c21_12:Code:=(pS2 c21_11)
noncomputable def Z21 (m:Nat):=fun (e:Nat→AV)=>Qo (C m) (Xh e Tryz.f21.results.toList)
noncomputable def D21 (m:Nat) (c:Qd) (p:Code) (k:TE→Kt) (x:Nat→TE→Kt):=Q2 p (C m) c k x (Z21 m)
noncomputable def Yh (m:Nat) (c:Qd):Kt:=
 Qo (C m) [(none,(B true))]
theorem K21_3_eq:D21 m c c21_3 (Z21 m) nx = (a0 (Yh m c)):=by
  refine Tq (D21 m c (pS1 c21_3) (Z21 m) nx) (by kernel_rfl) ?_
  kernel_rfl
noncomputable def Yc (m:Nat) (c:Qd) (h5:AV→AV→AV→Kt) (t2 t3 t5:AV):Kt:=
 bnd (Qi (C m) .add 3 t5 (I 1)) fun v0=>
 h5 t2 t3 v0
theorem K21_7_eq (h5:AV→AV→AV→Kt):D21 m c c21_7 (a3 h5 2 3 5) (Qa 0 (a0 (Yh m c)) nx) = (a3 (Yc m c h5) 2 3 5):=by
  kernel_rfl
noncomputable def K21_12 (m:Nat) (c:Qd) (h5:AV→AV→AV→Kt) (h10:AV→AV→AV→AV→Kt) (t2 t3 t5 t6:AV):Kt:=
 bnd (Qi (C m) .add 3 t6 (I 1)) fun v0=>
 h10 t2 t3 t5 v0
theorem K21_12_eq (h5:AV→AV→AV→Kt) (h10:AV→AV→AV→AV→Kt):D21 m c c21_12 (a4 h10 2 3 5 6) (Qa 2 (a3 (Yc m c h5) 2 3 5) (Qa 1 (a3 (Yc m c h5) 2 3 5) (Qa 0 (a0 (Yh m c)) nx))) = (a4 (K21_12 m c h5 h10) 2 3 5 6):=by
  kernel_rfl
noncomputable def K21_11 (m:Nat) (c:Qd) (h5:AV→AV→AV→Kt) (h10:AV→AV→AV→AV→Kt) (t2 t3 t5 t6:AV):Kt:=
 atN 20 fun v0=>
 dIn fun sv0=>
 Qk (Qh (C m) 64 t2 1) fun v1=>
 Qr (ldO (C m) 62 v1) fun v2=>
 Qk (Q9 (C m) 62 v2 t5) fun v3=>
 Qr (ldO (C m) 112 v3) fun v4=>
 Qk (Q9 (C m) 112 v4 t6) fun v5=>
 Qr (ldO (C m) 120 v5) fun v6=>
 Vw (Xe (C m) 120) (Nat.add v0 16) fun v7=>
 Vw (Xe (C m) 120) (Nat.add v0 17) fun v8=>
 Xn (stO (C m) 120 v7 v6) fun v9 sv9=>
 Qk (Qh (C m) 64 t3 1) fun v10=>
 Ze (some true) (ldO (C m) 62 v10) (fun v11=>(Xk (ldO (C m) 62 v10) v11 sv9 && (Xk (ldO (C m) 62 v10) v11 sv0 && true))) fun v12=>
 Qk (Q9 (C m) 62 v12 t5) fun v13=>
 Ze (some true) (ldO (C m) 112 v13) (fun v14=>(Xk (ldO (C m) 112 v13) v14 sv9 && (Xk (ldO (C m) 112 v13) v14 sv0 && true))) fun v15=>
 Qk (Q9 (C m) 112 v15 t6) fun v16=>
 Ze (some true) (ldO (C m) 120 v16) (fun v17=>(Xk (ldO (C m) 120 v16) v17 sv9 && (Xk (ldO (C m) 120 v16) v17 sv0 && true))) fun v18=>
 Xn (stO (C m) 120 v8 v18) fun v19 sv19=>
 bnd (Qh (C m) 120 v7 1) fun v20=>
 bnd (ldO (C m) 9 v20) fun v21=>
 bnd (Qh (C m) 120 v8 1) fun v22=>
 bnd (ldO (C m) 9 v22) fun v23=>
 bnd (Qi (C m) .neq 9 v21 v23) fun v24=>
 bnd (gdO (Qc v24 false) (Qh (C m) 120 v7 2)) fun v25=>
 bnd (gdO (Qc v24 false) (ldO (C m) 3 v25)) fun v26=>
 bnd (gdO (Qc v24 false) (Qh (C m) 120 v8 2)) fun v27=>
 bnd (gdO (Qc v24 false) (ldO (C m) 3 v27)) fun v28=>
 bnd (gdO (Qc v24 false) (Qi (C m) .neq 3 v26 v28)) fun v29=>
 bnd (Qm v24 (B true) v29) fun v30=>
 bnd (gdO (Qc v30 false) (Qh (C m) 120 v7 0)) fun v31=>
 bnd (gdO (Qc v30 false) (ldO (C m) 118 v31)) fun v32=>
 bnd (gdO (Qc v30 false) (Qh (C m) 120 v8 0)) fun v33=>
 bnd (gdO (Qc v30 false) (ldO (C m) 118 v33)) fun v34=>
 bnd (gdO (Qc v30 false) (Qy (C m) c (fnV 47) [v32,v34])) fun v35=>
 bnd (gdO (Qc v30 false) (unO .not v35)) fun v36=>
 bnd (Qm v30 (B true) v36) fun v37=>
 ifB v37
 ((Qo (C m) [(none,(B false))]))
 ((K21_12 m c h5 h10 t2 t3 t5 t6))
theorem K21_11_eq (h5:AV→AV→AV→Kt) (h10:AV→AV→AV→AV→Kt):D21 m c c21_11 (a4 h10 2 3 5 6) (Qa 2 (a3 (Yc m c h5) 2 3 5) (Qa 1 (a3 (Yc m c h5) 2 3 5) (Qa 0 (a0 (Yh m c)) nx))) = (a4 (K21_11 m c h5 h10) 2 3 5 6):=by
  refine Tq (D21 m c (pS1 (pB (pS1 c21_11))) (D21 m c (pS1 (pS2 (pB (pS1 c21_11)))) (fun e=>ifB (e 88) ((D21 m c (pS1 (pC1 (pS2 (pS2 (pB (pS1 c21_11)))))) (Z21 m) (Qa 3 (D21 m c c21_12 (a4 h10 2 3 5 6) (Qa 2 (a3 (Yc m c h5) 2 3 5) (Qa 1 (a3 (Yc m c h5) 2 3 5) (Qa 0 (a0 (Yh m c)) nx)))) (Qa 2 (a3 (Yc m c h5) 2 3 5) (Qa 1 (a3 (Yc m c h5) 2 3 5) (Qa 0 (a0 (Yh m c)) nx))))) e) ((D21 m c c21_12 (a4 h10 2 3 5 6) (Qa 2 (a3 (Yc m c h5) 2 3 5) (Qa 1 (a3 (Yc m c h5) 2 3 5) (Qa 0 (a0 (Yh m c)) nx)))) e)) (Qa 3 (D21 m c c21_12 (a4 h10 2 3 5 6) (Qa 2 (a3 (Yc m c h5) 2 3 5) (Qa 1 (a3 (Yc m c h5) 2 3 5) (Qa 0 (a0 (Yh m c)) nx)))) (Qa 2 (a3 (Yc m c h5) 2 3 5) (Qa 1 (a3 (Yc m c h5) 2 3 5) (Qa 0 (a0 (Yh m c)) nx))))) (Qa 3 (D21 m c c21_12 (a4 h10 2 3 5 6) (Qa 2 (a3 (Yc m c h5) 2 3 5) (Qa 1 (a3 (Yc m c h5) 2 3 5) (Qa 0 (a0 (Yh m c)) nx)))) (Qa 2 (a3 (Yc m c h5) 2 3 5) (Qa 1 (a3 (Yc m c h5) 2 3 5) (Qa 0 (a0 (Yh m c)) nx))))) (by kernel_rfl) ?_
  rw [K21_12_eq m c h5 h10 ]
  kernel_rfl
noncomputable def L21_10_b (m:Nat) (c:Qd) (h5:AV→AV→AV→Kt) (h10:AV→AV→AV→AV→Kt) (t2 t3 t5 t6:AV):Kt:=
 bnd (Qh (C m) 64 t2 1) fun v0=>
 bnd (ldO (C m) 62 v0) fun v1=>
 bnd (Q9 (C m) 62 v1 t5) fun v2=>
 bnd (ldO (C m) 112 v2) fun v3=>
 bnd (Qv (C m) .len [112] [v3]) fun v4=>
 bnd (Qi (C m) .lss 3 t6 v4) fun v5=>
 ifB v5
 ((K21_11 m c h5 h10 t2 t3 t5 t6))
 ((Yc m c h5 t2 t3 t5))
noncomputable def L21_10 (m:Nat) (c:Qd) (h5:AV→AV→AV→Kt) (n:Nat):AV→AV→AV→AV→Kt:=
 Nat.rec (motive:=fun _=>AV→AV→AV→AV→Kt) (fun t2 t3 t5 t6=>noK) (fun _ ih=>L21_10_b m c h5 ih) n
theorem L21_10_b_eq (h5:AV→AV→AV→Kt) (h10:AV→AV→AV→AV→Kt):D21 m c c21_10 (a4 h10 2 3 5 6) (Qa 2 (a3 (Yc m c h5) 2 3 5) (Qa 1 (a3 (Yc m c h5) 2 3 5) (Qa 0 (a0 (Yh m c)) nx))) = fun e=>L21_10_b m c h5 h10 (e 2) (e 3) (e 5) (e 6):=by
  refine Tq (D21 m c (pS1 (pS1 c21_10)) (fun e=>ifB (e 50) ((D21 m c c21_11 (a4 h10 2 3 5 6) (Qa 2 (a3 (Yc m c h5) 2 3 5) (Qa 1 (a3 (Yc m c h5) 2 3 5) (Qa 0 (a0 (Yh m c)) nx)))) e) ((a3 (Yc m c h5) 2 3 5) e)) (Qa 2 (a3 (Yc m c h5) 2 3 5) (Qa 1 (a3 (Yc m c h5) 2 3 5) (Qa 0 (a0 (Yh m c)) nx)))) (by kernel_rfl) ?_
  rw [K21_11_eq m c h5 h10 ]
  kernel_rfl
theorem L21_10_eq (h5:AV→AV→AV→Kt) (n:Nat):(Qn (fun k=>D21 m c c21_10 k (Qa 2 (a3 (Yc m c h5) 2 3 5) (Qa 1 (a3 (Yc m c h5) 2 3 5) (Qa 0 (a0 (Yh m c)) nx)))) n) = (a4 (L21_10 m c h5 n) 2 3 5 6):=by
  induction n with
  | zero=>rfl
  | succ n ih=>
    show D21 m c c21_10 (Qn (fun k=>D21 m c c21_10 k (Qa 2 (a3 (Yc m c h5) 2 3 5) (Qa 1 (a3 (Yc m c h5) 2 3 5) (Qa 0 (a0 (Yh m c)) nx)))) n) (Qa 2 (a3 (Yc m c h5) 2 3 5) (Qa 1 (a3 (Yc m c h5) 2 3 5) (Qa 0 (a0 (Yh m c)) nx))) = _
    rw [ih,L21_10_b_eq m c h5 (L21_10 m c h5 n)]
    rfl
theorem L21_10_succ (h5:AV→AV→AV→Kt) (n:Nat):L21_10 m c h5 (n + 1) = L21_10_b m c h5 (L21_10 m c h5 n):=rfl
noncomputable def K21_9 (m:Nat) (c:Qd) (h5:AV→AV→AV→Kt) (t2 t3 t5 t6:AV):Kt:=
 L21_10 m c h5 m t2 t3 t5 t6
theorem K21_9_eq (h5:AV→AV→AV→Kt):D21 m c c21_9 (a3 (Yc m c h5) 2 3 5) (Qa 1 (a3 (Yc m c h5) 2 3 5) (Qa 0 (a0 (Yh m c)) nx)) = (a4 (K21_9 m c h5) 2 3 5 6):=by
  refine Tq (Qn (fun k=>D21 m c c21_10 k (Qa 2 (a3 (Yc m c h5) 2 3 5) (Qa 1 (a3 (Yc m c h5) 2 3 5) (Qa 0 (a0 (Yh m c)) nx)))) m) (by kernel_rfl) ?_
  rw [L21_10_eq m c h5 m]
  kernel_rfl
noncomputable def K21_8 (m:Nat) (c:Qd) (h5:AV→AV→AV→Kt) (t2 t3 t5:AV):Kt:=
 K21_9 m c h5 t2 t3 t5 (I 0)
theorem K21_8_eq (h5:AV→AV→AV→Kt):D21 m c c21_8 (a3 (Yc m c h5) 2 3 5) (Qa 1 (a3 (Yc m c h5) 2 3 5) (Qa 0 (a0 (Yh m c)) nx)) = (a3 (K21_8 m c h5) 2 3 5):=by
  refine Tq (D21 m c (pS1 c21_8) (D21 m c c21_9 (a3 (Yc m c h5) 2 3 5) (Qa 1 (a3 (Yc m c h5) 2 3 5) (Qa 0 (a0 (Yh m c)) nx))) (Qa 1 (a3 (Yc m c h5) 2 3 5) (Qa 0 (a0 (Yh m c)) nx))) (by kernel_rfl) ?_
  rw [K21_9_eq m c h5 ]
  kernel_rfl
noncomputable def K21_6 (m:Nat) (c:Qd) (h5:AV→AV→AV→Kt) (t2 t3 t5:AV):Kt:=
 dIn fun sv0=>
 Qk (Qh (C m) 64 t2 1) fun v1=>
 Qr (ldO (C m) 62 v1) fun v2=>
 Qk (Q9 (C m) 62 v2 t5) fun v3=>
 Qr (ldO (C m) 112 v3) fun v4=>
 Qr (Qv (C m) .len [112] [v4]) fun v5=>
 Qk (Qh (C m) 64 t3 1) fun v6=>
 Qr (ldO (C m) 62 v6) fun v7=>
 Qk (Q9 (C m) 62 v7 t5) fun v8=>
 Qr (ldO (C m) 112 v8) fun v9=>
 Qr (Qv (C m) .len [112] [v9]) fun v10=>
 Qk (Qi (C m) .neq 3 v5 v10) fun v11=>
 ifB v11
 ((Qo (C m) [(none,(B false))]))
 ((K21_8 m c h5 t2 t3 t5))
theorem K21_6_eq (h5:AV→AV→AV→Kt):D21 m c c21_6 (a3 h5 2 3 5) (Qa 0 (a0 (Yh m c)) nx) = (a3 (K21_6 m c h5) 2 3 5):=by
  refine Tq (D21 m c (pS1 (pS1 (pB (pS1 c21_6)))) (fun e=>ifB (e 42) ((D21 m c (pS1 (pC1 (pS2 (pS1 (pB (pS1 c21_6)))))) (Z21 m) (Qa 1 (D21 m c c21_7 (a3 h5 2 3 5) (Qa 0 (a0 (Yh m c)) nx)) (Qa 0 (a0 (Yh m c)) nx))) e) ((D21 m c c21_8 (D21 m c c21_7 (a3 h5 2 3 5) (Qa 0 (a0 (Yh m c)) nx)) (Qa 1 (D21 m c c21_7 (a3 h5 2 3 5) (Qa 0 (a0 (Yh m c)) nx)) (Qa 0 (a0 (Yh m c)) nx))) e)) (Qa 1 (D21 m c c21_7 (a3 h5 2 3 5) (Qa 0 (a0 (Yh m c)) nx)) (Qa 0 (a0 (Yh m c)) nx))) (by kernel_rfl) ?_
  rw [K21_7_eq m c h5 ,K21_8_eq m c h5 ]
  kernel_rfl
noncomputable def L21_5_b (m:Nat) (c:Qd) (h5:AV→AV→AV→Kt) (t2 t3 t5:AV):Kt:=
 bnd (Qh (C m) 64 t2 1) fun v0=>
 bnd (ldO (C m) 62 v0) fun v1=>
 bnd (Qv (C m) .len [62] [v1]) fun v2=>
 bnd (Qi (C m) .lss 3 t5 v2) fun v3=>
 ifB v3
 ((K21_6 m c h5 t2 t3 t5))
 ((Yh m c))
noncomputable def L21_5 (m:Nat) (c:Qd) (n:Nat):AV→AV→AV→Kt:=
 Nat.rec (motive:=fun _=>AV→AV→AV→Kt) (fun t2 t3 t5=>noK) (fun _ ih=>L21_5_b m c ih) n
theorem L21_5_b_eq (h5:AV→AV→AV→Kt):D21 m c c21_5 (a3 h5 2 3 5) (Qa 0 (a0 (Yh m c)) nx) = fun e=>L21_5_b m c h5 (e 2) (e 3) (e 5):=by
  refine Tq (D21 m c (pS1 (pS1 c21_5)) (fun e=>ifB (e 27) ((D21 m c c21_6 (a3 h5 2 3 5) (Qa 0 (a0 (Yh m c)) nx)) e) ((a0 (Yh m c)) e)) (Qa 0 (a0 (Yh m c)) nx)) (by kernel_rfl) ?_
  rw [K21_6_eq m c h5 ]
  kernel_rfl
theorem L21_5_eq (n:Nat):(Qn (fun k=>D21 m c c21_5 k (Qa 0 (a0 (Yh m c)) nx)) n) = (a3 (L21_5 m c n) 2 3 5):=by
  induction n with
  | zero=>rfl
  | succ n ih=>
    show D21 m c c21_5 (Qn (fun k=>D21 m c c21_5 k (Qa 0 (a0 (Yh m c)) nx)) n) (Qa 0 (a0 (Yh m c)) nx) = _
    rw [ih,L21_5_b_eq m c (L21_5 m c n)]
    rfl
theorem L21_5_succ (n:Nat):L21_5 m c (n + 1) = L21_5_b m c (L21_5 m c n):=rfl
noncomputable def K21_4 (m:Nat) (c:Qd) (t2 t3 t5:AV):Kt:=
 L21_5 m c m t2 t3 t5
theorem K21_4_eq:D21 m c c21_4 (a0 (Yh m c)) nx = (a3 (K21_4 m c) 2 3 5):=by
  refine Tq (Qn (fun k=>D21 m c c21_5 k (Qa 0 (a0 (Yh m c)) nx)) m) (by kernel_rfl) ?_
  rw [L21_5_eq m c m]
  kernel_rfl
noncomputable def K21_2 (m:Nat) (c:Qd) (t2 t3:AV):Kt:=
 K21_4 m c t2 t3 (I 0)
theorem K21_2_eq:D21 m c c21_2 (Z21 m) nx = (a2 (K21_2 m c) 2 3):=by
  refine Tq (D21 m c (pS1 (pS1 c21_2)) (D21 m c c21_4 (D21 m c c21_3 (Z21 m) nx) nx) nx) (by kernel_rfl) ?_
  rw [K21_3_eq m c ,K21_4_eq m c ]
  kernel_rfl
noncomputable def K21_1 (m:Nat) (c:Qd) (t2 t3:AV):Kt:=
 bnd (Qh (C m) 64 t2 0) fun v0=>
 bnd (ldO (C m) 22 v0) fun v1=>
 bnd (Qh (C m) 64 t3 0) fun v2=>
 bnd (ldO (C m) 22 v2) fun v3=>
 bnd (Qi (C m) .neq 22 v1 v3) fun v4=>
 bnd (gdO (Qc v4 false) (Qh (C m) 64 t2 1)) fun v5=>
 bnd (gdO (Qc v4 false) (ldO (C m) 62 v5)) fun v6=>
 bnd (gdO (Qc v4 false) (Qv (C m) .len [62] [v6])) fun v7=>
 bnd (gdO (Qc v4 false) (Qh (C m) 64 t3 1)) fun v8=>
 bnd (gdO (Qc v4 false) (ldO (C m) 62 v8)) fun v9=>
 bnd (gdO (Qc v4 false) (Qv (C m) .len [62] [v9])) fun v10=>
 bnd (gdO (Qc v4 false) (Qi (C m) .neq 3 v7 v10)) fun v11=>
 bnd (Qm v4 (B true) v11) fun v12=>
 ifB v12
 ((Qo (C m) [(none,(B false))]))
 ((K21_2 m c t2 t3))
theorem K21_1_eq:D21 m c c21_1 (Z21 m) nx = (a2 (K21_1 m c) 2 3):=by
  refine Tq (D21 m c (pS1 (pS1 c21_1)) (fun e=>ifB (e 22) ((D21 m c (pS1 (pC1 (pS2 (pS1 c21_1)))) (Z21 m) nx) e) ((D21 m c c21_2 (Z21 m) nx) e)) nx) (by kernel_rfl) ?_
  rw [K21_2_eq m c ]
  kernel_rfl
noncomputable def K21_0 (m:Nat) (c:Qd) (t0 t1:AV):Kt:=
 bnd (Z2 64 t0) fun v0=>
 bnd (Z2 64 t1) fun v1=>
 K21_1 m c v0 v1
theorem K21_0_eq:D21 m c c21_0 (Z21 m) nx = (a2 (K21_0 m c) 0 1):=by
  refine Tq (D21 m c (pS1 c21_0) (D21 m c c21_1 (Z21 m) nx) nx) (by kernel_rfl) ?_
  rw [K21_1_eq m c ]
  kernel_rfl
theorem F21_eq (t0 t1:AV):Qu (C m) c Tryz.f21 [t0,t1] = K21_0 m c t0 t1:=by
  refine Tq ((D21 m c c21_0 (Z21 m) nx) (Xl [t0,t1])) (by kernel_rfl) ?_
  rw [K21_0_eq m c]
  rfl
noncomputable def c47_0:Code:=(Qw Tryz.f47)
noncomputable def c47_1:Code:=(pS2 c47_0)
noncomputable def c47_2:Code:=(pS2 c47_1)
noncomputable def c47_3:Code:=(pS2 c47_2)
noncomputable def c47_4:Code:=(pS2 (pS1 c47_2))
noncomputable def c47_5:Code:=(pL (pB c47_4))
noncomputable def c47_6:Code:=(pS2 c47_5)
noncomputable def c47_7:Code:=(pS2 c47_6)
noncomputable def c47_8:Code:=(pS2 (pB (pS1 c47_6)))
noncomputable def c47_9:Code:=(pS2 c47_8)
noncomputable def c47_10:Code:=(pL (pB c47_9))
noncomputable def c47_11:Code:=(pS2 c47_10)
noncomputable def c47_12:Code:=(pS2 c47_11)
noncomputable def Z47 (m:Nat):=fun (e:Nat→AV)=>Qo (C m) (Xh e Tryz.f47.results.toList)
noncomputable def D47 (m:Nat) (c:Qd) (p:Code) (k:TE→Kt) (x:Nat→TE→Kt):=Q2 p (C m) c k x (Z47 m)
noncomputable def Yv (m:Nat) (c:Qd):Kt:=
 Qo (C m) [(none,(B true))]
theorem K47_3_eq:D47 m c c47_3 (Z47 m) nx = (a0 (Yv m c)):=by
  refine Tq (D47 m c (pS1 c47_3) (Z47 m) nx) (by kernel_rfl) ?_
  kernel_rfl
noncomputable def Yw (m:Nat) (c:Qd) (h5:AV→AV→AV→Kt) (t2 t3 t5:AV):Kt:=
 bnd (Qi (C m) .add 3 t5 (I 1)) fun v0=>
 h5 t2 t3 v0
theorem K47_7_eq (h5:AV→AV→AV→Kt):D47 m c c47_7 (a3 h5 2 3 5) (Qa 0 (a0 (Yv m c)) nx) = (a3 (Yw m c h5) 2 3 5):=by
  kernel_rfl
noncomputable def K47_12 (m:Nat) (c:Qd) (h5:AV→AV→AV→Kt) (h10:AV→AV→AV→AV→Kt) (t2 t3 t5 t6:AV):Kt:=
 bnd (Qi (C m) .add 3 t6 (I 1)) fun v0=>
 h10 t2 t3 t5 v0
theorem K47_12_eq (h5:AV→AV→AV→Kt) (h10:AV→AV→AV→AV→Kt):D47 m c c47_12 (a4 h10 2 3 5 6) (Qa 2 (a3 (Yw m c h5) 2 3 5) (Qa 1 (a3 (Yw m c h5) 2 3 5) (Qa 0 (a0 (Yv m c)) nx))) = (a4 (K47_12 m c h5 h10) 2 3 5 6):=by
  kernel_rfl
noncomputable def K47_11 (m:Nat) (c:Qd) (h5:AV→AV→AV→Kt) (h10:AV→AV→AV→AV→Kt) (t2 t3 t5 t6:AV):Kt:=
 dIn fun sv0=>
 Qk (Qh (C m) 118 t2 1) fun v1=>
 Qr (ldO (C m) 113 v1) fun v2=>
 Qk (Q9 (C m) 113 v2 t5) fun v3=>
 Qr (ldO (C m) 32 v3) fun v4=>
 Qk (Q9 (C m) 32 v4 t6) fun v5=>
 Qr (ldO (C m) 4 v5) fun v6=>
 Qk (Qh (C m) 118 t3 1) fun v7=>
 Qr (ldO (C m) 113 v7) fun v8=>
 Qk (Q9 (C m) 113 v8 t5) fun v9=>
 Qr (ldO (C m) 32 v9) fun v10=>
 Qk (Q9 (C m) 32 v10 t6) fun v11=>
 Qr (ldO (C m) 4 v11) fun v12=>
 Qk (Qi (C m) .neq 4 v6 v12) fun v13=>
 ifB v13
 ((Qo (C m) [(none,(B false))]))
 ((K47_12 m c h5 h10 t2 t3 t5 t6))
theorem K47_11_eq (h5:AV→AV→AV→Kt) (h10:AV→AV→AV→AV→Kt):D47 m c c47_11 (a4 h10 2 3 5 6) (Qa 2 (a3 (Yw m c h5) 2 3 5) (Qa 1 (a3 (Yw m c h5) 2 3 5) (Qa 0 (a0 (Yv m c)) nx))) = (a4 (K47_11 m c h5 h10) 2 3 5 6):=by
  refine Tq (D47 m c (pS1 (pB (pS1 c47_11))) (fun e=>ifB (e 67) ((D47 m c (pS1 (pC1 (pS2 (pB (pS1 c47_11))))) (Z47 m) (Qa 3 (D47 m c c47_12 (a4 h10 2 3 5 6) (Qa 2 (a3 (Yw m c h5) 2 3 5) (Qa 1 (a3 (Yw m c h5) 2 3 5) (Qa 0 (a0 (Yv m c)) nx)))) (Qa 2 (a3 (Yw m c h5) 2 3 5) (Qa 1 (a3 (Yw m c h5) 2 3 5) (Qa 0 (a0 (Yv m c)) nx))))) e) ((D47 m c c47_12 (a4 h10 2 3 5 6) (Qa 2 (a3 (Yw m c h5) 2 3 5) (Qa 1 (a3 (Yw m c h5) 2 3 5) (Qa 0 (a0 (Yv m c)) nx)))) e)) (Qa 3 (D47 m c c47_12 (a4 h10 2 3 5 6) (Qa 2 (a3 (Yw m c h5) 2 3 5) (Qa 1 (a3 (Yw m c h5) 2 3 5) (Qa 0 (a0 (Yv m c)) nx)))) (Qa 2 (a3 (Yw m c h5) 2 3 5) (Qa 1 (a3 (Yw m c h5) 2 3 5) (Qa 0 (a0 (Yv m c)) nx))))) (by kernel_rfl) ?_
  rw [K47_12_eq m c h5 h10 ]
  kernel_rfl
noncomputable def L47_10_b (m:Nat) (c:Qd) (h5:AV→AV→AV→Kt) (h10:AV→AV→AV→AV→Kt) (t2 t3 t5 t6:AV):Kt:=
 bnd (Qh (C m) 118 t2 1) fun v0=>
 bnd (ldO (C m) 113 v0) fun v1=>
 bnd (Q9 (C m) 113 v1 t5) fun v2=>
 bnd (ldO (C m) 32 v2) fun v3=>
 bnd (Qv (C m) .len [32] [v3]) fun v4=>
 bnd (Qi (C m) .lss 3 t6 v4) fun v5=>
 ifB v5
 ((K47_11 m c h5 h10 t2 t3 t5 t6))
 ((Yw m c h5 t2 t3 t5))
noncomputable def L47_10 (m:Nat) (c:Qd) (h5:AV→AV→AV→Kt) (n:Nat):AV→AV→AV→AV→Kt:=
 Nat.rec (motive:=fun _=>AV→AV→AV→AV→Kt) (fun t2 t3 t5 t6=>noK) (fun _ ih=>L47_10_b m c h5 ih) n
theorem L47_10_b_eq (h5:AV→AV→AV→Kt) (h10:AV→AV→AV→AV→Kt):D47 m c c47_10 (a4 h10 2 3 5 6) (Qa 2 (a3 (Yw m c h5) 2 3 5) (Qa 1 (a3 (Yw m c h5) 2 3 5) (Qa 0 (a0 (Yv m c)) nx))) = fun e=>L47_10_b m c h5 h10 (e 2) (e 3) (e 5) (e 6):=by
  refine Tq (D47 m c (pS1 (pS1 c47_10)) (fun e=>ifB (e 48) ((D47 m c c47_11 (a4 h10 2 3 5 6) (Qa 2 (a3 (Yw m c h5) 2 3 5) (Qa 1 (a3 (Yw m c h5) 2 3 5) (Qa 0 (a0 (Yv m c)) nx)))) e) ((a3 (Yw m c h5) 2 3 5) e)) (Qa 2 (a3 (Yw m c h5) 2 3 5) (Qa 1 (a3 (Yw m c h5) 2 3 5) (Qa 0 (a0 (Yv m c)) nx)))) (by kernel_rfl) ?_
  rw [K47_11_eq m c h5 h10 ]
  kernel_rfl
theorem L47_10_eq (h5:AV→AV→AV→Kt) (n:Nat):(Qn (fun k=>D47 m c c47_10 k (Qa 2 (a3 (Yw m c h5) 2 3 5) (Qa 1 (a3 (Yw m c h5) 2 3 5) (Qa 0 (a0 (Yv m c)) nx)))) n) = (a4 (L47_10 m c h5 n) 2 3 5 6):=by
  induction n with
  | zero=>rfl
  | succ n ih=>
    show D47 m c c47_10 (Qn (fun k=>D47 m c c47_10 k (Qa 2 (a3 (Yw m c h5) 2 3 5) (Qa 1 (a3 (Yw m c h5) 2 3 5) (Qa 0 (a0 (Yv m c)) nx)))) n) (Qa 2 (a3 (Yw m c h5) 2 3 5) (Qa 1 (a3 (Yw m c h5) 2 3 5) (Qa 0 (a0 (Yv m c)) nx))) = _
    rw [ih,L47_10_b_eq m c h5 (L47_10 m c h5 n)]
    rfl
theorem L47_10_succ (h5:AV→AV→AV→Kt) (n:Nat):L47_10 m c h5 (n + 1) = L47_10_b m c h5 (L47_10 m c h5 n):=rfl
noncomputable def K47_9 (m:Nat) (c:Qd) (h5:AV→AV→AV→Kt) (t2 t3 t5 t6:AV):Kt:=
 L47_10 m c h5 m t2 t3 t5 t6
theorem K47_9_eq (h5:AV→AV→AV→Kt):D47 m c c47_9 (a3 (Yw m c h5) 2 3 5) (Qa 1 (a3 (Yw m c h5) 2 3 5) (Qa 0 (a0 (Yv m c)) nx)) = (a4 (K47_9 m c h5) 2 3 5 6):=by
  refine Tq (Qn (fun k=>D47 m c c47_10 k (Qa 2 (a3 (Yw m c h5) 2 3 5) (Qa 1 (a3 (Yw m c h5) 2 3 5) (Qa 0 (a0 (Yv m c)) nx)))) m) (by kernel_rfl) ?_
  rw [L47_10_eq m c h5 m]
  kernel_rfl
noncomputable def K47_8 (m:Nat) (c:Qd) (h5:AV→AV→AV→Kt) (t2 t3 t5:AV):Kt:=
 K47_9 m c h5 t2 t3 t5 (I 0)
theorem K47_8_eq (h5:AV→AV→AV→Kt):D47 m c c47_8 (a3 (Yw m c h5) 2 3 5) (Qa 1 (a3 (Yw m c h5) 2 3 5) (Qa 0 (a0 (Yv m c)) nx)) = (a3 (K47_8 m c h5) 2 3 5):=by
  refine Tq (D47 m c (pS1 c47_8) (D47 m c c47_9 (a3 (Yw m c h5) 2 3 5) (Qa 1 (a3 (Yw m c h5) 2 3 5) (Qa 0 (a0 (Yv m c)) nx))) (Qa 1 (a3 (Yw m c h5) 2 3 5) (Qa 0 (a0 (Yv m c)) nx))) (by kernel_rfl) ?_
  rw [K47_9_eq m c h5 ]
  kernel_rfl
noncomputable def K47_6 (m:Nat) (c:Qd) (h5:AV→AV→AV→Kt) (t2 t3 t5:AV):Kt:=
 dIn fun sv0=>
 Qk (Qh (C m) 118 t2 1) fun v1=>
 Qr (ldO (C m) 113 v1) fun v2=>
 Qk (Q9 (C m) 113 v2 t5) fun v3=>
 Qr (ldO (C m) 32 v3) fun v4=>
 Qr (Qv (C m) .len [32] [v4]) fun v5=>
 Qk (Qh (C m) 118 t3 1) fun v6=>
 Qr (ldO (C m) 113 v6) fun v7=>
 Qk (Q9 (C m) 113 v7 t5) fun v8=>
 Qr (ldO (C m) 32 v8) fun v9=>
 Qr (Qv (C m) .len [32] [v9]) fun v10=>
 Qk (Qi (C m) .neq 3 v5 v10) fun v11=>
 ifB v11
 ((Qo (C m) [(none,(B false))]))
 ((K47_8 m c h5 t2 t3 t5))
theorem K47_6_eq (h5:AV→AV→AV→Kt):D47 m c c47_6 (a3 h5 2 3 5) (Qa 0 (a0 (Yv m c)) nx) = (a3 (K47_6 m c h5) 2 3 5):=by
  refine Tq (D47 m c (pS1 (pS1 (pB (pS1 c47_6)))) (fun e=>ifB (e 40) ((D47 m c (pS1 (pC1 (pS2 (pS1 (pB (pS1 c47_6)))))) (Z47 m) (Qa 1 (D47 m c c47_7 (a3 h5 2 3 5) (Qa 0 (a0 (Yv m c)) nx)) (Qa 0 (a0 (Yv m c)) nx))) e) ((D47 m c c47_8 (D47 m c c47_7 (a3 h5 2 3 5) (Qa 0 (a0 (Yv m c)) nx)) (Qa 1 (D47 m c c47_7 (a3 h5 2 3 5) (Qa 0 (a0 (Yv m c)) nx)) (Qa 0 (a0 (Yv m c)) nx))) e)) (Qa 1 (D47 m c c47_7 (a3 h5 2 3 5) (Qa 0 (a0 (Yv m c)) nx)) (Qa 0 (a0 (Yv m c)) nx))) (by kernel_rfl) ?_
  rw [K47_7_eq m c h5 ,K47_8_eq m c h5 ]
  kernel_rfl
noncomputable def L47_5_b (m:Nat) (c:Qd) (h5:AV→AV→AV→Kt) (t2 t3 t5:AV):Kt:=
 bnd (Qh (C m) 118 t2 1) fun v0=>
 bnd (ldO (C m) 113 v0) fun v1=>
 bnd (Qv (C m) .len [113] [v1]) fun v2=>
 bnd (Qi (C m) .lss 3 t5 v2) fun v3=>
 ifB v3
 ((K47_6 m c h5 t2 t3 t5))
 ((Yv m c))
noncomputable def L47_5 (m:Nat) (c:Qd) (n:Nat):AV→AV→AV→Kt:=
 Nat.rec (motive:=fun _=>AV→AV→AV→Kt) (fun t2 t3 t5=>noK) (fun _ ih=>L47_5_b m c ih) n
theorem L47_5_b_eq (h5:AV→AV→AV→Kt):D47 m c c47_5 (a3 h5 2 3 5) (Qa 0 (a0 (Yv m c)) nx) = fun e=>L47_5_b m c h5 (e 2) (e 3) (e 5):=by
  refine Tq (D47 m c (pS1 (pS1 c47_5)) (fun e=>ifB (e 25) ((D47 m c c47_6 (a3 h5 2 3 5) (Qa 0 (a0 (Yv m c)) nx)) e) ((a0 (Yv m c)) e)) (Qa 0 (a0 (Yv m c)) nx)) (by kernel_rfl) ?_
  rw [K47_6_eq m c h5 ]
  kernel_rfl
theorem L47_5_eq (n:Nat):(Qn (fun k=>D47 m c c47_5 k (Qa 0 (a0 (Yv m c)) nx)) n) = (a3 (L47_5 m c n) 2 3 5):=by
  induction n with
  | zero=>rfl
  | succ n ih=>
    show D47 m c c47_5 (Qn (fun k=>D47 m c c47_5 k (Qa 0 (a0 (Yv m c)) nx)) n) (Qa 0 (a0 (Yv m c)) nx) = _
    rw [ih,L47_5_b_eq m c (L47_5 m c n)]
    rfl
theorem L47_5_succ (n:Nat):L47_5 m c (n + 1) = L47_5_b m c (L47_5 m c n):=rfl
noncomputable def K47_4 (m:Nat) (c:Qd) (t2 t3 t5:AV):Kt:=
 L47_5 m c m t2 t3 t5
theorem K47_4_eq:D47 m c c47_4 (a0 (Yv m c)) nx = (a3 (K47_4 m c) 2 3 5):=by
  refine Tq (Qn (fun k=>D47 m c c47_5 k (Qa 0 (a0 (Yv m c)) nx)) m) (by kernel_rfl) ?_
  rw [L47_5_eq m c m]
  kernel_rfl
noncomputable def K47_2 (m:Nat) (c:Qd) (t2 t3:AV):Kt:=
 K47_4 m c t2 t3 (I 0)
theorem K47_2_eq:D47 m c c47_2 (Z47 m) nx = (a2 (K47_2 m c) 2 3):=by
  refine Tq (D47 m c (pS1 (pS1 c47_2)) (D47 m c c47_4 (D47 m c c47_3 (Z47 m) nx) nx) nx) (by kernel_rfl) ?_
  rw [K47_3_eq m c ,K47_4_eq m c ]
  kernel_rfl
noncomputable def K47_1 (m:Nat) (c:Qd) (t2 t3:AV):Kt:=
 bnd (Qh (C m) 118 t2 0) fun v0=>
 bnd (ldO (C m) 22 v0) fun v1=>
 bnd (Qh (C m) 118 t3 0) fun v2=>
 bnd (ldO (C m) 22 v2) fun v3=>
 bnd (Qi (C m) .neq 22 v1 v3) fun v4=>
 bnd (gdO (Qc v4 false) (Qh (C m) 118 t2 1)) fun v5=>
 bnd (gdO (Qc v4 false) (ldO (C m) 113 v5)) fun v6=>
 bnd (gdO (Qc v4 false) (Qv (C m) .len [113] [v6])) fun v7=>
 bnd (gdO (Qc v4 false) (Qh (C m) 118 t3 1)) fun v8=>
 bnd (gdO (Qc v4 false) (ldO (C m) 113 v8)) fun v9=>
 bnd (gdO (Qc v4 false) (Qv (C m) .len [113] [v9])) fun v10=>
 bnd (gdO (Qc v4 false) (Qi (C m) .neq 3 v7 v10)) fun v11=>
 bnd (Qm v4 (B true) v11) fun v12=>
 ifB v12
 ((Qo (C m) [(none,(B false))]))
 ((K47_2 m c t2 t3))
theorem K47_1_eq:D47 m c c47_1 (Z47 m) nx = (a2 (K47_1 m c) 2 3):=by
  refine Tq (D47 m c (pS1 (pS1 c47_1)) (fun e=>ifB (e 20) ((D47 m c (pS1 (pC1 (pS2 (pS1 c47_1)))) (Z47 m) nx) e) ((D47 m c c47_2 (Z47 m) nx) e)) nx) (by kernel_rfl) ?_
  rw [K47_2_eq m c ]
  kernel_rfl
noncomputable def K47_0 (m:Nat) (c:Qd) (t0 t1:AV):Kt:=
 bnd (Z2 118 t0) fun v0=>
 bnd (Z2 118 t1) fun v1=>
 K47_1 m c v0 v1
theorem K47_0_eq:D47 m c c47_0 (Z47 m) nx = (a2 (K47_0 m c) 0 1):=by
  refine Tq (D47 m c (pS1 c47_0) (D47 m c c47_1 (Z47 m) nx) nx) (by kernel_rfl) ?_
  rw [K47_1_eq m c ]
  kernel_rfl
theorem F47_eq (t0 t1:AV):Qu (C m) c Tryz.f47 [t0,t1] = K47_0 m c t0 t1:=by
  refine Tq ((D47 m c c47_0 (Z47 m) nx) (Xl [t0,t1])) (by kernel_rfl) ?_
  rw [K47_0_eq m c]
  rfl
noncomputable def c7_0:Code:=(Qw Tryz.f7)
noncomputable def c7_1:Code:=(pS2 c7_0)
noncomputable def c7_2:Code:=(pS2 c7_1)
noncomputable def c7_3:Code:=(pS2 c7_2)
noncomputable def c7_4:Code:=(pS2 c7_3)
noncomputable def c7_5:Code:=(pS2 c7_4)
noncomputable def c7_6:Code:=(pS2 c7_5)
noncomputable def c7_7:Code:=(pS2 c7_6)
noncomputable def c7_8:Code:=(pS2 c7_7)
noncomputable def c7_9:Code:=(pS2 c7_8)
noncomputable def c7_10:Code:=(pS2 c7_9)
noncomputable def c7_11:Code:=(pS2 (pS1 c7_9))
noncomputable def c7_12:Code:=(pL (pB c7_11))
noncomputable def c7_13:Code:=(pS2 c7_12)
noncomputable def c7_14:Code:=(pS2 c7_13)
noncomputable def c7_15:Code:=(pS2 c7_14)
noncomputable def c7_16:Code:=(pS2 (pB (pS1 c7_14)))
noncomputable def c7_17:Code:=(pS2 c7_16)
noncomputable def c7_18:Code:=(pS2 c7_17)
noncomputable def c7_19:Code:=(pS2 (pS1 c7_17))
noncomputable def c7_20:Code:=(pL (pB c7_19))
noncomputable def c7_21:Code:=(pS2 c7_20)
noncomputable def c7_22:Code:=(pS2 c7_21)
noncomputable def c7_23:Code:=(pS2 c7_22)
noncomputable def c7_24:Code:=(pS2 (pS1 c7_7))
noncomputable def c7_25:Code:=(pL (pB c7_24))
noncomputable def c7_26:Code:=(pS2 c7_25)
noncomputable def c7_27:Code:=(pS2 c7_26)
noncomputable def c7_28:Code:=(pS2 c7_27)
noncomputable def c7_29:Code:=(pS2 (pB (pS1 c7_27)))
noncomputable def c7_30:Code:=(pS2 c7_29)
noncomputable def c7_31:Code:=(pS2 c7_30)
noncomputable def c7_32:Code:=(pS2 (pS1 c7_30))
noncomputable def c7_33:Code:=(pL (pB c7_32))
noncomputable def c7_34:Code:=(pS2 c7_33)
noncomputable def c7_35:Code:=(pS2 c7_34)
noncomputable def c7_36:Code:=(pS2 c7_35)
noncomputable def c7_37:Code:=(pS2 (pS1 c7_5))
noncomputable def c7_38:Code:=(pL (pB c7_37))
noncomputable def c7_39:Code:=(pS2 c7_38)
noncomputable def c7_40:Code:=(pS2 c7_39)
noncomputable def c7_41:Code:=(pS2 c7_40)
noncomputable def c7_42:Code:=(pS2 (pB (pS1 c7_40)))
noncomputable def c7_43:Code:=(pS2 c7_42)
noncomputable def c7_44:Code:=(pS2 c7_43)
noncomputable def c7_45:Code:=(pS2 (pS1 c7_43))
noncomputable def c7_46:Code:=(pL (pB c7_45))
noncomputable def c7_47:Code:=(pS2 c7_46)
noncomputable def c7_48:Code:=(pS2 c7_47)
noncomputable def c7_49:Code:=(pS2 c7_48)
noncomputable def c7_50:Code:=(pS2 (pS1 c7_3))
noncomputable def c7_51:Code:=(pL (pB c7_50))
noncomputable def c7_52:Code:=(pS2 c7_51)
noncomputable def c7_53:Code:=(pS2 c7_52)
noncomputable def c7_54:Code:=(pS2 c7_53)
noncomputable def c7_55:Code:=(pS2 (pB (pS1 c7_53)))
noncomputable def c7_56:Code:=(pS2 c7_55)
noncomputable def c7_57:Code:=(pS2 c7_56)
noncomputable def c7_58:Code:=(pS2 (pS1 c7_56))
noncomputable def c7_59:Code:=(pL (pB c7_58))
noncomputable def c7_60:Code:=(pS2 c7_59)
noncomputable def c7_61:Code:=(pS2 c7_60)
noncomputable def c7_62:Code:=(pS2 c7_61)
noncomputable def Z7 (m:Nat):=fun (e:Nat→AV)=>Qo (C m) (Xh e Tryz.f7.results.toList)
noncomputable def D7 (m:Nat) (c:Qd) (p:Code) (k:TE→Kt) (x:Nat→TE→Kt):=Q2 p (C m) c k x (Z7 m)
noncomputable def X3 (m:Nat) (c:Qd) (t2 t3:AV):Kt:=
 bnd (ldO (C m) 66 t3) fun v0=>
 bnd (stO (C m) 66 t2 v0) fun _=>
 Qo (C m) [(some 66,t2)]
theorem K7_10_eq:D7 m c c7_10 (Z7 m) nx = (a2 (X3 m c) 2 3):=by
  refine Tq (D7 m c (pS1 c7_10) (Z7 m) nx) (by kernel_rfl) ?_
  kernel_rfl
noncomputable def Za (m:Nat) (c:Qd) (h12:AV→AV→AV→AV→AV→Kt) (t2 t3 t166 t167 t168:AV):Kt:=
 bnd (Qi (C m) .add 3 t168 (I 1)) fun v0=>
 h12 t2 t3 t166 t167 v0
theorem K7_15_eq (h12:AV→AV→AV→AV→AV→Kt):D7 m c c7_15 (a5 h12 2 3 166 167 168) (Qa 12 (a2 (X3 m c) 2 3) nx) = (a5 (Za m c h12) 2 3 166 167 168):=by
  kernel_rfl
noncomputable def W2 (m:Nat) (c:Qd) (h12:AV→AV→AV→AV→AV→Kt) (t2 t3 t21 t166 t167 t168:AV):Kt:=
 bnd (Qh (C m) 66 t3 7) fun v0=>
 bnd (Qh (C m) 64 v0 1) fun v1=>
 bnd (ldO (C m) 62 v1) fun v2=>
 bnd (Vi (C m) 62 1 [(0,t21)]) fun v3=>
 bnd (Qv (C m) .append [62,62] [v2,v3]) fun v4=>
 bnd (Qh (C m) 66 t3 7) fun v5=>
 bnd (Qh (C m) 64 v5 1) fun v6=>
 bnd (stO (C m) 62 v6 v4) fun _=>
 Za m c h12 t2 t3 t166 t167 t168
theorem K7_18_eq (h12:AV→AV→AV→AV→AV→Kt):D7 m c c7_18 (a5 (Za m c h12) 2 3 166 167 168) (Qa 13 (a5 (Za m c h12) 2 3 166 167 168) (Qa 12 (a2 (X3 m c) 2 3) nx)) = (a6 (W2 m c h12) 2 3 21 166 167 168):=by
  kernel_rfl
noncomputable def K7_23 (m:Nat) (c:Qd) (h12:AV→AV→AV→AV→AV→Kt) (h20:AV→AV→AV→AV→AV→AV→AV→AV→AV→Kt) (t2 t3 t21 t166 t167 t168 t172 t173 t174:AV):Kt:=
 bnd (Qi (C m) .add 3 t174 (I 1)) fun v0=>
 h20 t2 t3 t21 t166 t167 t168 t172 t173 v0
theorem K7_23_eq (h12:AV→AV→AV→AV→AV→Kt) (h20:AV→AV→AV→AV→AV→AV→AV→AV→AV→Kt):D7 m c c7_23 (a9 h20 2 3 21 166 167 168 172 173 174) (Qa 14 (a6 (W2 m c h12) 2 3 21 166 167 168) (Qa 13 (a5 (Za m c h12) 2 3 166 167 168) (Qa 12 (a2 (X3 m c) 2 3) nx))) = (a9 (K7_23 m c h12 h20) 2 3 21 166 167 168 172 173 174):=by
  kernel_rfl
noncomputable def K7_22 (m:Nat) (c:Qd) (h12:AV→AV→AV→AV→AV→Kt) (h20:AV→AV→AV→AV→AV→AV→AV→AV→AV→Kt) (t2 t3 t21 t166 t167 t168 t172 t173 t174:AV):Kt:=
 bnd (Q9 (C m) 111 t172 t174) fun v0=>
 bnd (ldO (C m) 117 v0) fun v1=>
 bnd (Xe (C m) 117) fun v2=>
 bnd (stO (C m) 117 v2 v1) fun _=>
 bnd (Qh (C m) 117 v2 0) fun v3=>
 bnd (ldO (C m) 115 v3) fun v4=>
 bnd (Qh (C m) 117 v2 1) fun v5=>
 bnd (ldO (C m) 9 v5) fun v6=>
 bnd (Qh (C m) 117 v2 2) fun v7=>
 bnd (ldO (C m) 3 v7) fun v8=>
 bnd (Xp (C m) 120 [(0,v4),(1,v6),(2,v8)]) fun v9=>
 bnd (Vi (C m) 112 1 [(0,v9)]) fun v10=>
 bnd (Qv (C m) .append [112,112] [t21,v10]) fun v11=>
 K7_23 m c h12 h20 t2 t3 v11 t166 t167 t168 t172 t173 t174
theorem K7_22_eq (h12:AV→AV→AV→AV→AV→Kt) (h20:AV→AV→AV→AV→AV→AV→AV→AV→AV→Kt):D7 m c c7_22 (a9 h20 2 3 21 166 167 168 172 173 174) (Qa 14 (a6 (W2 m c h12) 2 3 21 166 167 168) (Qa 13 (a5 (Za m c h12) 2 3 166 167 168) (Qa 12 (a2 (X3 m c) 2 3) nx))) = (a9 (K7_22 m c h12 h20) 2 3 21 166 167 168 172 173 174):=by
  refine Tq (D7 m c (pS1 (pB (pS1 c7_22))) (D7 m c (pS2 (pB (pS1 c7_22))) (D7 m c c7_23 (a9 h20 2 3 21 166 167 168 172 173 174) (Qa 14 (a6 (W2 m c h12) 2 3 21 166 167 168) (Qa 13 (a5 (Za m c h12) 2 3 166 167 168) (Qa 12 (a2 (X3 m c) 2 3) nx)))) (Qa 15 (D7 m c c7_23 (a9 h20 2 3 21 166 167 168 172 173 174) (Qa 14 (a6 (W2 m c h12) 2 3 21 166 167 168) (Qa 13 (a5 (Za m c h12) 2 3 166 167 168) (Qa 12 (a2 (X3 m c) 2 3) nx)))) (Qa 14 (a6 (W2 m c h12) 2 3 21 166 167 168) (Qa 13 (a5 (Za m c h12) 2 3 166 167 168) (Qa 12 (a2 (X3 m c) 2 3) nx))))) (Qa 15 (D7 m c c7_23 (a9 h20 2 3 21 166 167 168 172 173 174) (Qa 14 (a6 (W2 m c h12) 2 3 21 166 167 168) (Qa 13 (a5 (Za m c h12) 2 3 166 167 168) (Qa 12 (a2 (X3 m c) 2 3) nx)))) (Qa 14 (a6 (W2 m c h12) 2 3 21 166 167 168) (Qa 13 (a5 (Za m c h12) 2 3 166 167 168) (Qa 12 (a2 (X3 m c) 2 3) nx))))) (by kernel_rfl) ?_
  rw [K7_23_eq m c h12 h20 ]
  kernel_rfl
noncomputable def K7_21 (m:Nat) (c:Qd) (h12:AV→AV→AV→AV→AV→Kt) (h20:AV→AV→AV→AV→AV→AV→AV→AV→AV→Kt) (t2 t3 t21 t166 t167 t168 t172 t173 t174 t175:AV):Kt:=
 ifB t175
 ((K7_22 m c h12 h20 t2 t3 t21 t166 t167 t168 t172 t173 t174))
 ((W2 m c h12 t2 t3 t21 t166 t167 t168))
theorem K7_21_eq (h12:AV→AV→AV→AV→AV→Kt) (h20:AV→AV→AV→AV→AV→AV→AV→AV→AV→Kt):D7 m c c7_21 (a9 h20 2 3 21 166 167 168 172 173 174) (Qa 14 (a6 (W2 m c h12) 2 3 21 166 167 168) (Qa 13 (a5 (Za m c h12) 2 3 166 167 168) (Qa 12 (a2 (X3 m c) 2 3) nx))) = (a10 (K7_21 m c h12 h20) 2 3 21 166 167 168 172 173 174 175):=by
  refine Tq (fun e=>ifB (e 175) ((D7 m c c7_22 (a9 h20 2 3 21 166 167 168 172 173 174) (Qa 14 (a6 (W2 m c h12) 2 3 21 166 167 168) (Qa 13 (a5 (Za m c h12) 2 3 166 167 168) (Qa 12 (a2 (X3 m c) 2 3) nx)))) e) ((a6 (W2 m c h12) 2 3 21 166 167 168) e)) (by kernel_rfl) ?_
  rw [K7_22_eq m c h12 h20 ]
  kernel_rfl
noncomputable def L7_20_b (m:Nat) (c:Qd) (h12:AV→AV→AV→AV→AV→Kt) (h20:AV→AV→AV→AV→AV→AV→AV→AV→AV→Kt) (t2 t3 t21 t166 t167 t168 t172 t173 t174:AV):Kt:=
 bnd (Qi (C m) .lss 3 t174 t173) fun v0=>
 K7_21 m c h12 h20 t2 t3 t21 t166 t167 t168 t172 t173 t174 v0
noncomputable def L7_20 (m:Nat) (c:Qd) (h12:AV→AV→AV→AV→AV→Kt) (n:Nat):AV→AV→AV→AV→AV→AV→AV→AV→AV→Kt:=
 Nat.rec (motive:=fun _=>AV→AV→AV→AV→AV→AV→AV→AV→AV→Kt) (fun t2 t3 t21 t166 t167 t168 t172 t173 t174=>noK) (fun _ ih=>L7_20_b m c h12 ih) n
theorem L7_20_b_eq (h12:AV→AV→AV→AV→AV→Kt) (h20:AV→AV→AV→AV→AV→AV→AV→AV→AV→Kt):D7 m c c7_20 (a9 h20 2 3 21 166 167 168 172 173 174) (Qa 14 (a6 (W2 m c h12) 2 3 21 166 167 168) (Qa 13 (a5 (Za m c h12) 2 3 166 167 168) (Qa 12 (a2 (X3 m c) 2 3) nx))) = fun e=>L7_20_b m c h12 h20 (e 2) (e 3) (e 21) (e 166) (e 167) (e 168) (e 172) (e 173) (e 174):=by
  refine Tq (D7 m c (pS1 c7_20) (D7 m c c7_21 (a9 h20 2 3 21 166 167 168 172 173 174) (Qa 14 (a6 (W2 m c h12) 2 3 21 166 167 168) (Qa 13 (a5 (Za m c h12) 2 3 166 167 168) (Qa 12 (a2 (X3 m c) 2 3) nx)))) (Qa 14 (a6 (W2 m c h12) 2 3 21 166 167 168) (Qa 13 (a5 (Za m c h12) 2 3 166 167 168) (Qa 12 (a2 (X3 m c) 2 3) nx)))) (by kernel_rfl) ?_
  rw [K7_21_eq m c h12 h20 ]
  kernel_rfl
theorem L7_20_eq (h12:AV→AV→AV→AV→AV→Kt) (n:Nat):(Qn (fun k=>D7 m c c7_20 k (Qa 14 (a6 (W2 m c h12) 2 3 21 166 167 168) (Qa 13 (a5 (Za m c h12) 2 3 166 167 168) (Qa 12 (a2 (X3 m c) 2 3) nx)))) n) = (a9 (L7_20 m c h12 n) 2 3 21 166 167 168 172 173 174):=by
  induction n with
  | zero=>rfl
  | succ n ih=>
    show D7 m c c7_20 (Qn (fun k=>D7 m c c7_20 k (Qa 14 (a6 (W2 m c h12) 2 3 21 166 167 168) (Qa 13 (a5 (Za m c h12) 2 3 166 167 168) (Qa 12 (a2 (X3 m c) 2 3) nx)))) n) (Qa 14 (a6 (W2 m c h12) 2 3 21 166 167 168) (Qa 13 (a5 (Za m c h12) 2 3 166 167 168) (Qa 12 (a2 (X3 m c) 2 3) nx))) = _
    rw [ih,L7_20_b_eq m c h12 (L7_20 m c h12 n)]
    rfl
theorem L7_20_succ (h12:AV→AV→AV→AV→AV→Kt) (n:Nat):L7_20 m c h12 (n + 1) = L7_20_b m c h12 (L7_20 m c h12 n):=rfl
noncomputable def K7_19 (m:Nat) (c:Qd) (h12:AV→AV→AV→AV→AV→Kt) (t2 t3 t21 t166 t167 t168 t172 t173 t174:AV):Kt:=
 L7_20 m c h12 m t2 t3 t21 t166 t167 t168 t172 t173 t174
theorem K7_19_eq (h12:AV→AV→AV→AV→AV→Kt):D7 m c c7_19 (a6 (W2 m c h12) 2 3 21 166 167 168) (Qa 13 (a5 (Za m c h12) 2 3 166 167 168) (Qa 12 (a2 (X3 m c) 2 3) nx)) = (a9 (K7_19 m c h12) 2 3 21 166 167 168 172 173 174):=by
  refine Tq (Qn (fun k=>D7 m c c7_20 k (Qa 14 (a6 (W2 m c h12) 2 3 21 166 167 168) (Qa 13 (a5 (Za m c h12) 2 3 166 167 168) (Qa 12 (a2 (X3 m c) 2 3) nx)))) m) (by kernel_rfl) ?_
  rw [L7_20_eq m c h12 m]
  kernel_rfl
noncomputable def K7_17 (m:Nat) (c:Qd) (h12:AV→AV→AV→AV→AV→Kt) (t2 t3 t20 t21 t166 t167 t168:AV):Kt:=
 bnd (Qv (C m) .len [111] [t20]) fun v0=>
 K7_19 m c h12 t2 t3 t21 t166 t167 t168 t20 v0 (I 0)
theorem K7_17_eq (h12:AV→AV→AV→AV→AV→Kt):D7 m c c7_17 (a5 (Za m c h12) 2 3 166 167 168) (Qa 13 (a5 (Za m c h12) 2 3 166 167 168) (Qa 12 (a2 (X3 m c) 2 3) nx)) = (a7 (K7_17 m c h12) 2 3 20 21 166 167 168):=by
  refine Tq (D7 m c (pS1 (pS1 c7_17)) (D7 m c c7_19 (D7 m c c7_18 (a5 (Za m c h12) 2 3 166 167 168) (Qa 13 (a5 (Za m c h12) 2 3 166 167 168) (Qa 12 (a2 (X3 m c) 2 3) nx))) (Qa 13 (a5 (Za m c h12) 2 3 166 167 168) (Qa 12 (a2 (X3 m c) 2 3) nx))) (Qa 13 (a5 (Za m c h12) 2 3 166 167 168) (Qa 12 (a2 (X3 m c) 2 3) nx))) (by kernel_rfl) ?_
  rw [K7_18_eq m c h12 ,K7_19_eq m c h12 ]
  kernel_rfl
noncomputable def K7_16 (m:Nat) (c:Qd) (h12:AV→AV→AV→AV→AV→Kt) (t2 t3 t20 t166 t167 t168:AV):Kt:=
 K7_17 m c h12 t2 t3 t20 NS t166 t167 t168
theorem K7_16_eq (h12:AV→AV→AV→AV→AV→Kt):D7 m c c7_16 (a5 (Za m c h12) 2 3 166 167 168) (Qa 13 (a5 (Za m c h12) 2 3 166 167 168) (Qa 12 (a2 (X3 m c) 2 3) nx)) = (a6 (K7_16 m c h12) 2 3 20 166 167 168):=by
  refine Tq (D7 m c (pS1 c7_16) (D7 m c c7_17 (a5 (Za m c h12) 2 3 166 167 168) (Qa 13 (a5 (Za m c h12) 2 3 166 167 168) (Qa 12 (a2 (X3 m c) 2 3) nx))) (Qa 13 (a5 (Za m c h12) 2 3 166 167 168) (Qa 12 (a2 (X3 m c) 2 3) nx))) (by kernel_rfl) ?_
  rw [K7_17_eq m c h12 ]
  kernel_rfl
noncomputable def K7_14 (m:Nat) (c:Qd) (h12:AV→AV→AV→AV→AV→Kt) (t2 t3 t166 t167 t168:AV):Kt:=
 bnd (Q9 (C m) 41 t166 t168) fun v0=>
 bnd (ldO (C m) 111 v0) fun v1=>
 K7_16 m c h12 t2 t3 v1 t166 t167 t168
theorem K7_14_eq (h12:AV→AV→AV→AV→AV→Kt):D7 m c c7_14 (a5 h12 2 3 166 167 168) (Qa 12 (a2 (X3 m c) 2 3) nx) = (a5 (K7_14 m c h12) 2 3 166 167 168):=by
  refine Tq (D7 m c (pS1 (pB (pS1 c7_14))) (D7 m c c7_16 (D7 m c c7_15 (a5 h12 2 3 166 167 168) (Qa 12 (a2 (X3 m c) 2 3) nx)) (Qa 13 (D7 m c c7_15 (a5 h12 2 3 166 167 168) (Qa 12 (a2 (X3 m c) 2 3) nx)) (Qa 12 (a2 (X3 m c) 2 3) nx))) (Qa 13 (D7 m c c7_15 (a5 h12 2 3 166 167 168) (Qa 12 (a2 (X3 m c) 2 3) nx)) (Qa 12 (a2 (X3 m c) 2 3) nx))) (by kernel_rfl) ?_
  rw [K7_15_eq m c h12 ,K7_16_eq m c h12 ]
  kernel_rfl
noncomputable def K7_13 (m:Nat) (c:Qd) (h12:AV→AV→AV→AV→AV→Kt) (t2 t3 t166 t167 t168 t169:AV):Kt:=
 ifB t169
 ((K7_14 m c h12 t2 t3 t166 t167 t168))
 ((X3 m c t2 t3))
theorem K7_13_eq (h12:AV→AV→AV→AV→AV→Kt):D7 m c c7_13 (a5 h12 2 3 166 167 168) (Qa 12 (a2 (X3 m c) 2 3) nx) = (a6 (K7_13 m c h12) 2 3 166 167 168 169):=by
  refine Tq (fun e=>ifB (e 169) ((D7 m c c7_14 (a5 h12 2 3 166 167 168) (Qa 12 (a2 (X3 m c) 2 3) nx)) e) ((a2 (X3 m c) 2 3) e)) (by kernel_rfl) ?_
  rw [K7_14_eq m c h12 ]
  kernel_rfl
noncomputable def L7_12_b (m:Nat) (c:Qd) (h12:AV→AV→AV→AV→AV→Kt) (t2 t3 t166 t167 t168:AV):Kt:=
 bnd (Qi (C m) .lss 3 t168 t167) fun v0=>
 K7_13 m c h12 t2 t3 t166 t167 t168 v0
noncomputable def L7_12 (m:Nat) (c:Qd) (n:Nat):AV→AV→AV→AV→AV→Kt:=
 Nat.rec (motive:=fun _=>AV→AV→AV→AV→AV→Kt) (fun t2 t3 t166 t167 t168=>noK) (fun _ ih=>L7_12_b m c ih) n
theorem L7_12_b_eq (h12:AV→AV→AV→AV→AV→Kt):D7 m c c7_12 (a5 h12 2 3 166 167 168) (Qa 12 (a2 (X3 m c) 2 3) nx) = fun e=>L7_12_b m c h12 (e 2) (e 3) (e 166) (e 167) (e 168):=by
  refine Tq (D7 m c (pS1 c7_12) (D7 m c c7_13 (a5 h12 2 3 166 167 168) (Qa 12 (a2 (X3 m c) 2 3) nx)) (Qa 12 (a2 (X3 m c) 2 3) nx)) (by kernel_rfl) ?_
  rw [K7_13_eq m c h12 ]
  kernel_rfl
theorem L7_12_eq (n:Nat):(Qn (fun k=>D7 m c c7_12 k (Qa 12 (a2 (X3 m c) 2 3) nx)) n) = (a5 (L7_12 m c n) 2 3 166 167 168):=by
  induction n with
  | zero=>rfl
  | succ n ih=>
    show D7 m c c7_12 (Qn (fun k=>D7 m c c7_12 k (Qa 12 (a2 (X3 m c) 2 3) nx)) n) (Qa 12 (a2 (X3 m c) 2 3) nx) = _
    rw [ih,L7_12_b_eq m c (L7_12 m c n)]
    rfl
theorem L7_12_succ (n:Nat):L7_12 m c (n + 1) = L7_12_b m c (L7_12 m c n):=rfl
noncomputable def K7_11 (m:Nat) (c:Qd) (t2 t3 t166 t167 t168:AV):Kt:=
 L7_12 m c m t2 t3 t166 t167 t168
theorem K7_11_eq:D7 m c c7_11 (a2 (X3 m c) 2 3) nx = (a5 (K7_11 m c) 2 3 166 167 168):=by
  refine Tq (Qn (fun k=>D7 m c c7_12 k (Qa 12 (a2 (X3 m c) 2 3) nx)) m) (by kernel_rfl) ?_
  rw [L7_12_eq m c m]
  kernel_rfl
noncomputable def K7_9 (m:Nat) (c:Qd) (t1 t2 t3:AV):Kt:=
 bnd (Qh (C m) 45 t1 7) fun v0=>
 bnd (Qh (C m) 43 v0 1) fun v1=>
 bnd (ldO (C m) 41 v1) fun v2=>
 bnd (Qv (C m) .len [41] [v2]) fun v3=>
 K7_11 m c t2 t3 v2 v3 (I 0)
theorem K7_9_eq:D7 m c c7_9 (Z7 m) nx = (a3 (K7_9 m c) 1 2 3):=by
  refine Tq (D7 m c (pS1 (pS1 c7_9)) (D7 m c c7_11 (D7 m c c7_10 (Z7 m) nx) nx) nx) (by kernel_rfl) ?_
  rw [K7_10_eq m c ,K7_11_eq m c ]
  kernel_rfl
noncomputable def Zl (m:Nat) (c:Qd) (t1 t2 t3:AV):Kt:=
 bnd (Qh (C m) 45 t1 7) fun v0=>
 bnd (Qh (C m) 43 v0 0) fun v1=>
 bnd (ldO (C m) 22 v1) fun v2=>
 bnd (Xp (C m) 64 [(0,v2)]) fun v3=>
 bnd (Qh (C m) 66 t3 7) fun v4=>
 bnd (stO (C m) 64 v4 v3) fun _=>
 K7_9 m c t1 t2 t3
theorem K7_8_eq:D7 m c c7_8 (Z7 m) nx = (a3 (Zl m c) 1 2 3):=by
  refine Tq (D7 m c (pS1 c7_8) (D7 m c c7_9 (Z7 m) nx) nx) (by kernel_rfl) ?_
  rw [K7_9_eq m c ]
  kernel_rfl
noncomputable def Zb (m:Nat) (c:Qd) (h25:AV→AV→AV→AV→AV→AV→Kt) (t1 t2 t3 t127 t128 t129:AV):Kt:=
 bnd (Qi (C m) .add 3 t129 (I 1)) fun v0=>
 h25 t1 t2 t3 t127 t128 v0
theorem K7_28_eq (h25:AV→AV→AV→AV→AV→AV→Kt):D7 m c c7_28 (a6 h25 1 2 3 127 128 129) (Qa 8 (a3 (Zl m c) 1 2 3) nx) = (a6 (Zb m c h25) 1 2 3 127 128 129):=by
  kernel_rfl
noncomputable def W3 (m:Nat) (c:Qd) (h25:AV→AV→AV→AV→AV→AV→Kt) (t1 t2 t3 t16 t127 t128 t129:AV):Kt:=
 bnd (Qh (C m) 66 t3 6) fun v0=>
 bnd (Qh (C m) 61 v0 2) fun v1=>
 bnd (ldO (C m) 59 v1) fun v2=>
 bnd (ldO (C m) 107 t16) fun v3=>
 bnd (Vi (C m) 59 1 [(0,v3)]) fun v4=>
 bnd (Qv (C m) .append [59,59] [v2,v4]) fun v5=>
 bnd (Qh (C m) 66 t3 6) fun v6=>
 bnd (Qh (C m) 61 v6 2) fun v7=>
 bnd (stO (C m) 59 v7 v5) fun _=>
 Zb m c h25 t1 t2 t3 t127 t128 t129
theorem K7_31_eq (h25:AV→AV→AV→AV→AV→AV→Kt):D7 m c c7_31 (a6 (Zb m c h25) 1 2 3 127 128 129) (Qa 9 (a6 (Zb m c h25) 1 2 3 127 128 129) (Qa 8 (a3 (Zl m c) 1 2 3) nx)) = (a7 (W3 m c h25) 1 2 3 16 127 128 129):=by
  kernel_rfl
noncomputable def K7_36 (m:Nat) (c:Qd) (h25:AV→AV→AV→AV→AV→AV→Kt) (h33:AV→AV→AV→AV→AV→AV→AV→AV→AV→AV→Kt) (t1 t2 t3 t16 t127 t128 t129 t137 t138 t139:AV):Kt:=
 bnd (Qi (C m) .add 3 t139 (I 1)) fun v0=>
 h33 t1 t2 t3 t16 t127 t128 t129 t137 t138 v0
theorem K7_36_eq (h25:AV→AV→AV→AV→AV→AV→Kt) (h33:AV→AV→AV→AV→AV→AV→AV→AV→AV→AV→Kt):D7 m c c7_36 (a10 h33 1 2 3 16 127 128 129 137 138 139) (Qa 10 (a7 (W3 m c h25) 1 2 3 16 127 128 129) (Qa 9 (a6 (Zb m c h25) 1 2 3 127 128 129) (Qa 8 (a3 (Zl m c) 1 2 3) nx))) = (a10 (K7_36 m c h25 h33) 1 2 3 16 127 128 129 137 138 139):=by
  kernel_rfl
noncomputable def K7_35 (m:Nat) (c:Qd) (h25:AV→AV→AV→AV→AV→AV→Kt) (h33:AV→AV→AV→AV→AV→AV→AV→AV→AV→AV→Kt) (t1 t2 t3 t16 t127 t128 t129 t137 t138 t139:AV):Kt:=
 bnd (Q9 (C m) 101 t137 t139) fun v0=>
 bnd (ldO (C m) 109 v0) fun v1=>
 bnd (Xe (C m) 109) fun v2=>
 bnd (stO (C m) 109 v2 v1) fun _=>
 bnd (Qh (C m) 107 t16 1) fun v3=>
 bnd (ldO (C m) 105 v3) fun v4=>
 bnd (ldO (C m) 109 v2) fun v5=>
 bnd (Vi (C m) 105 1 [(0,v5)]) fun v6=>
 bnd (Qv (C m) .append [105,105] [v4,v6]) fun v7=>
 bnd (Qh (C m) 107 t16 1) fun v8=>
 bnd (stO (C m) 105 v8 v7) fun _=>
 K7_36 m c h25 h33 t1 t2 t3 t16 t127 t128 t129 t137 t138 t139
theorem K7_35_eq (h25:AV→AV→AV→AV→AV→AV→Kt) (h33:AV→AV→AV→AV→AV→AV→AV→AV→AV→AV→Kt):D7 m c c7_35 (a10 h33 1 2 3 16 127 128 129 137 138 139) (Qa 10 (a7 (W3 m c h25) 1 2 3 16 127 128 129) (Qa 9 (a6 (Zb m c h25) 1 2 3 127 128 129) (Qa 8 (a3 (Zl m c) 1 2 3) nx))) = (a10 (K7_35 m c h25 h33) 1 2 3 16 127 128 129 137 138 139):=by
  refine Tq (D7 m c (pS1 (pB (pS1 c7_35))) (D7 m c (pS2 (pB (pS1 c7_35))) (D7 m c c7_36 (a10 h33 1 2 3 16 127 128 129 137 138 139) (Qa 10 (a7 (W3 m c h25) 1 2 3 16 127 128 129) (Qa 9 (a6 (Zb m c h25) 1 2 3 127 128 129) (Qa 8 (a3 (Zl m c) 1 2 3) nx)))) (Qa 11 (D7 m c c7_36 (a10 h33 1 2 3 16 127 128 129 137 138 139) (Qa 10 (a7 (W3 m c h25) 1 2 3 16 127 128 129) (Qa 9 (a6 (Zb m c h25) 1 2 3 127 128 129) (Qa 8 (a3 (Zl m c) 1 2 3) nx)))) (Qa 10 (a7 (W3 m c h25) 1 2 3 16 127 128 129) (Qa 9 (a6 (Zb m c h25) 1 2 3 127 128 129) (Qa 8 (a3 (Zl m c) 1 2 3) nx))))) (Qa 11 (D7 m c c7_36 (a10 h33 1 2 3 16 127 128 129 137 138 139) (Qa 10 (a7 (W3 m c h25) 1 2 3 16 127 128 129) (Qa 9 (a6 (Zb m c h25) 1 2 3 127 128 129) (Qa 8 (a3 (Zl m c) 1 2 3) nx)))) (Qa 10 (a7 (W3 m c h25) 1 2 3 16 127 128 129) (Qa 9 (a6 (Zb m c h25) 1 2 3 127 128 129) (Qa 8 (a3 (Zl m c) 1 2 3) nx))))) (by kernel_rfl) ?_
  rw [K7_36_eq m c h25 h33 ]
  kernel_rfl
noncomputable def K7_34 (m:Nat) (c:Qd) (h25:AV→AV→AV→AV→AV→AV→Kt) (h33:AV→AV→AV→AV→AV→AV→AV→AV→AV→AV→Kt) (t1 t2 t3 t16 t127 t128 t129 t137 t138 t139 t140:AV):Kt:=
 ifB t140
 ((K7_35 m c h25 h33 t1 t2 t3 t16 t127 t128 t129 t137 t138 t139))
 ((W3 m c h25 t1 t2 t3 t16 t127 t128 t129))
theorem K7_34_eq (h25:AV→AV→AV→AV→AV→AV→Kt) (h33:AV→AV→AV→AV→AV→AV→AV→AV→AV→AV→Kt):D7 m c c7_34 (a10 h33 1 2 3 16 127 128 129 137 138 139) (Qa 10 (a7 (W3 m c h25) 1 2 3 16 127 128 129) (Qa 9 (a6 (Zb m c h25) 1 2 3 127 128 129) (Qa 8 (a3 (Zl m c) 1 2 3) nx))) = (a11 (K7_34 m c h25 h33) 1 2 3 16 127 128 129 137 138 139 140):=by
  refine Tq (fun e=>ifB (e 140) ((D7 m c c7_35 (a10 h33 1 2 3 16 127 128 129 137 138 139) (Qa 10 (a7 (W3 m c h25) 1 2 3 16 127 128 129) (Qa 9 (a6 (Zb m c h25) 1 2 3 127 128 129) (Qa 8 (a3 (Zl m c) 1 2 3) nx)))) e) ((a7 (W3 m c h25) 1 2 3 16 127 128 129) e)) (by kernel_rfl) ?_
  rw [K7_35_eq m c h25 h33 ]
  kernel_rfl
noncomputable def L7_33_b (m:Nat) (c:Qd) (h25:AV→AV→AV→AV→AV→AV→Kt) (h33:AV→AV→AV→AV→AV→AV→AV→AV→AV→AV→Kt) (t1 t2 t3 t16 t127 t128 t129 t137 t138 t139:AV):Kt:=
 bnd (Qi (C m) .lss 3 t139 t138) fun v0=>
 K7_34 m c h25 h33 t1 t2 t3 t16 t127 t128 t129 t137 t138 t139 v0
noncomputable def L7_33 (m:Nat) (c:Qd) (h25:AV→AV→AV→AV→AV→AV→Kt) (n:Nat):AV→AV→AV→AV→AV→AV→AV→AV→AV→AV→Kt:=
 Nat.rec (motive:=fun _=>AV→AV→AV→AV→AV→AV→AV→AV→AV→AV→Kt) (fun t1 t2 t3 t16 t127 t128 t129 t137 t138 t139=>noK) (fun _ ih=>L7_33_b m c h25 ih) n
theorem L7_33_b_eq (h25:AV→AV→AV→AV→AV→AV→Kt) (h33:AV→AV→AV→AV→AV→AV→AV→AV→AV→AV→Kt):D7 m c c7_33 (a10 h33 1 2 3 16 127 128 129 137 138 139) (Qa 10 (a7 (W3 m c h25) 1 2 3 16 127 128 129) (Qa 9 (a6 (Zb m c h25) 1 2 3 127 128 129) (Qa 8 (a3 (Zl m c) 1 2 3) nx))) = fun e=>L7_33_b m c h25 h33 (e 1) (e 2) (e 3) (e 16) (e 127) (e 128) (e 129) (e 137) (e 138) (e 139):=by
  refine Tq (D7 m c (pS1 c7_33) (D7 m c c7_34 (a10 h33 1 2 3 16 127 128 129 137 138 139) (Qa 10 (a7 (W3 m c h25) 1 2 3 16 127 128 129) (Qa 9 (a6 (Zb m c h25) 1 2 3 127 128 129) (Qa 8 (a3 (Zl m c) 1 2 3) nx)))) (Qa 10 (a7 (W3 m c h25) 1 2 3 16 127 128 129) (Qa 9 (a6 (Zb m c h25) 1 2 3 127 128 129) (Qa 8 (a3 (Zl m c) 1 2 3) nx)))) (by kernel_rfl) ?_
  rw [K7_34_eq m c h25 h33 ]
  kernel_rfl
theorem L7_33_eq (h25:AV→AV→AV→AV→AV→AV→Kt) (n:Nat):(Qn (fun k=>D7 m c c7_33 k (Qa 10 (a7 (W3 m c h25) 1 2 3 16 127 128 129) (Qa 9 (a6 (Zb m c h25) 1 2 3 127 128 129) (Qa 8 (a3 (Zl m c) 1 2 3) nx)))) n) = (a10 (L7_33 m c h25 n) 1 2 3 16 127 128 129 137 138 139):=by
  induction n with
  | zero=>rfl
  | succ n ih=>
    show D7 m c c7_33 (Qn (fun k=>D7 m c c7_33 k (Qa 10 (a7 (W3 m c h25) 1 2 3 16 127 128 129) (Qa 9 (a6 (Zb m c h25) 1 2 3 127 128 129) (Qa 8 (a3 (Zl m c) 1 2 3) nx)))) n) (Qa 10 (a7 (W3 m c h25) 1 2 3 16 127 128 129) (Qa 9 (a6 (Zb m c h25) 1 2 3 127 128 129) (Qa 8 (a3 (Zl m c) 1 2 3) nx))) = _
    rw [ih,L7_33_b_eq m c h25 (L7_33 m c h25 n)]
    rfl
theorem L7_33_succ (h25:AV→AV→AV→AV→AV→AV→Kt) (n:Nat):L7_33 m c h25 (n + 1) = L7_33_b m c h25 (L7_33 m c h25 n):=rfl
noncomputable def K7_32 (m:Nat) (c:Qd) (h25:AV→AV→AV→AV→AV→AV→Kt) (t1 t2 t3 t16 t127 t128 t129 t137 t138 t139:AV):Kt:=
 L7_33 m c h25 m t1 t2 t3 t16 t127 t128 t129 t137 t138 t139
theorem K7_32_eq (h25:AV→AV→AV→AV→AV→AV→Kt):D7 m c c7_32 (a7 (W3 m c h25) 1 2 3 16 127 128 129) (Qa 9 (a6 (Zb m c h25) 1 2 3 127 128 129) (Qa 8 (a3 (Zl m c) 1 2 3) nx)) = (a10 (K7_32 m c h25) 1 2 3 16 127 128 129 137 138 139):=by
  refine Tq (Qn (fun k=>D7 m c c7_33 k (Qa 10 (a7 (W3 m c h25) 1 2 3 16 127 128 129) (Qa 9 (a6 (Zb m c h25) 1 2 3 127 128 129) (Qa 8 (a3 (Zl m c) 1 2 3) nx)))) m) (by kernel_rfl) ?_
  rw [L7_33_eq m c h25 m]
  kernel_rfl
noncomputable def K7_30 (m:Nat) (c:Qd) (h25:AV→AV→AV→AV→AV→AV→Kt) (t1 t2 t3 t15 t16 t127 t128 t129:AV):Kt:=
 bnd (Qh (C m) 103 t15 1) fun v0=>
 bnd (ldO (C m) 101 v0) fun v1=>
 bnd (Qv (C m) .len [101] [v1]) fun v2=>
 K7_32 m c h25 t1 t2 t3 t16 t127 t128 t129 v1 v2 (I 0)
theorem K7_30_eq (h25:AV→AV→AV→AV→AV→AV→Kt):D7 m c c7_30 (a6 (Zb m c h25) 1 2 3 127 128 129) (Qa 9 (a6 (Zb m c h25) 1 2 3 127 128 129) (Qa 8 (a3 (Zl m c) 1 2 3) nx)) = (a8 (K7_30 m c h25) 1 2 3 15 16 127 128 129):=by
  refine Tq (D7 m c (pS1 (pS1 c7_30)) (D7 m c c7_32 (D7 m c c7_31 (a6 (Zb m c h25) 1 2 3 127 128 129) (Qa 9 (a6 (Zb m c h25) 1 2 3 127 128 129) (Qa 8 (a3 (Zl m c) 1 2 3) nx))) (Qa 9 (a6 (Zb m c h25) 1 2 3 127 128 129) (Qa 8 (a3 (Zl m c) 1 2 3) nx))) (Qa 9 (a6 (Zb m c h25) 1 2 3 127 128 129) (Qa 8 (a3 (Zl m c) 1 2 3) nx))) (by kernel_rfl) ?_
  rw [K7_31_eq m c h25 ,K7_32_eq m c h25 ]
  kernel_rfl
noncomputable def K7_29 (m:Nat) (c:Qd) (h25:AV→AV→AV→AV→AV→AV→Kt) (t1 t2 t3 t15 t127 t128 t129:AV):Kt:=
 bnd (Qh (C m) 103 t15 0) fun v0=>
 bnd (ldO (C m) 100 v0) fun v1=>
 bnd (Xp (C m) 107 [(0,v1)]) fun v2=>
 bnd (Xe (C m) 107) fun v3=>
 bnd (stO (C m) 107 v3 v2) fun _=>
 K7_30 m c h25 t1 t2 t3 t15 v3 t127 t128 t129
theorem K7_29_eq (h25:AV→AV→AV→AV→AV→AV→Kt):D7 m c c7_29 (a6 (Zb m c h25) 1 2 3 127 128 129) (Qa 9 (a6 (Zb m c h25) 1 2 3 127 128 129) (Qa 8 (a3 (Zl m c) 1 2 3) nx)) = (a7 (K7_29 m c h25) 1 2 3 15 127 128 129):=by
  refine Tq (D7 m c (pS1 c7_29) (D7 m c c7_30 (a6 (Zb m c h25) 1 2 3 127 128 129) (Qa 9 (a6 (Zb m c h25) 1 2 3 127 128 129) (Qa 8 (a3 (Zl m c) 1 2 3) nx))) (Qa 9 (a6 (Zb m c h25) 1 2 3 127 128 129) (Qa 8 (a3 (Zl m c) 1 2 3) nx))) (by kernel_rfl) ?_
  rw [K7_30_eq m c h25 ]
  kernel_rfl
noncomputable def K7_27 (m:Nat) (c:Qd) (h25:AV→AV→AV→AV→AV→AV→Kt) (t1 t2 t3 t127 t128 t129:AV):Kt:=
 bnd (Q9 (C m) 38 t127 t129) fun v0=>
 bnd (ldO (C m) 103 v0) fun v1=>
 bnd (Xe (C m) 103) fun v2=>
 bnd (stO (C m) 103 v2 v1) fun _=>
 K7_29 m c h25 t1 t2 t3 v2 t127 t128 t129
theorem K7_27_eq (h25:AV→AV→AV→AV→AV→AV→Kt):D7 m c c7_27 (a6 h25 1 2 3 127 128 129) (Qa 8 (a3 (Zl m c) 1 2 3) nx) = (a6 (K7_27 m c h25) 1 2 3 127 128 129):=by
  refine Tq (D7 m c (pS1 (pB (pS1 c7_27))) (D7 m c c7_29 (D7 m c c7_28 (a6 h25 1 2 3 127 128 129) (Qa 8 (a3 (Zl m c) 1 2 3) nx)) (Qa 9 (D7 m c c7_28 (a6 h25 1 2 3 127 128 129) (Qa 8 (a3 (Zl m c) 1 2 3) nx)) (Qa 8 (a3 (Zl m c) 1 2 3) nx))) (Qa 9 (D7 m c c7_28 (a6 h25 1 2 3 127 128 129) (Qa 8 (a3 (Zl m c) 1 2 3) nx)) (Qa 8 (a3 (Zl m c) 1 2 3) nx))) (by kernel_rfl) ?_
  rw [K7_28_eq m c h25 ,K7_29_eq m c h25 ]
  kernel_rfl
noncomputable def K7_26 (m:Nat) (c:Qd) (h25:AV→AV→AV→AV→AV→AV→Kt) (t1 t2 t3 t127 t128 t129 t130:AV):Kt:=
 ifB t130
 ((K7_27 m c h25 t1 t2 t3 t127 t128 t129))
 ((Zl m c t1 t2 t3))
theorem K7_26_eq (h25:AV→AV→AV→AV→AV→AV→Kt):D7 m c c7_26 (a6 h25 1 2 3 127 128 129) (Qa 8 (a3 (Zl m c) 1 2 3) nx) = (a7 (K7_26 m c h25) 1 2 3 127 128 129 130):=by
  refine Tq (fun e=>ifB (e 130) ((D7 m c c7_27 (a6 h25 1 2 3 127 128 129) (Qa 8 (a3 (Zl m c) 1 2 3) nx)) e) ((a3 (Zl m c) 1 2 3) e)) (by kernel_rfl) ?_
  rw [K7_27_eq m c h25 ]
  kernel_rfl
noncomputable def L7_25_b (m:Nat) (c:Qd) (h25:AV→AV→AV→AV→AV→AV→Kt) (t1 t2 t3 t127 t128 t129:AV):Kt:=
 bnd (Qi (C m) .lss 3 t129 t128) fun v0=>
 K7_26 m c h25 t1 t2 t3 t127 t128 t129 v0
noncomputable def L7_25 (m:Nat) (c:Qd) (n:Nat):AV→AV→AV→AV→AV→AV→Kt:=
 Nat.rec (motive:=fun _=>AV→AV→AV→AV→AV→AV→Kt) (fun t1 t2 t3 t127 t128 t129=>noK) (fun _ ih=>L7_25_b m c ih) n
theorem L7_25_b_eq (h25:AV→AV→AV→AV→AV→AV→Kt):D7 m c c7_25 (a6 h25 1 2 3 127 128 129) (Qa 8 (a3 (Zl m c) 1 2 3) nx) = fun e=>L7_25_b m c h25 (e 1) (e 2) (e 3) (e 127) (e 128) (e 129):=by
  refine Tq (D7 m c (pS1 c7_25) (D7 m c c7_26 (a6 h25 1 2 3 127 128 129) (Qa 8 (a3 (Zl m c) 1 2 3) nx)) (Qa 8 (a3 (Zl m c) 1 2 3) nx)) (by kernel_rfl) ?_
  rw [K7_26_eq m c h25 ]
  kernel_rfl
theorem L7_25_eq (n:Nat):(Qn (fun k=>D7 m c c7_25 k (Qa 8 (a3 (Zl m c) 1 2 3) nx)) n) = (a6 (L7_25 m c n) 1 2 3 127 128 129):=by
  induction n with
  | zero=>rfl
  | succ n ih=>
    show D7 m c c7_25 (Qn (fun k=>D7 m c c7_25 k (Qa 8 (a3 (Zl m c) 1 2 3) nx)) n) (Qa 8 (a3 (Zl m c) 1 2 3) nx) = _
    rw [ih,L7_25_b_eq m c (L7_25 m c n)]
    rfl
theorem L7_25_succ (n:Nat):L7_25 m c (n + 1) = L7_25_b m c (L7_25 m c n):=rfl
noncomputable def K7_24 (m:Nat) (c:Qd) (t1 t2 t3 t127 t128 t129:AV):Kt:=
 L7_25 m c m t1 t2 t3 t127 t128 t129
theorem K7_24_eq:D7 m c c7_24 (a3 (Zl m c) 1 2 3) nx = (a6 (K7_24 m c) 1 2 3 127 128 129):=by
  refine Tq (Qn (fun k=>D7 m c c7_25 k (Qa 8 (a3 (Zl m c) 1 2 3) nx)) m) (by kernel_rfl) ?_
  rw [L7_25_eq m c m]
  kernel_rfl
noncomputable def K7_7 (m:Nat) (c:Qd) (t1 t2 t3:AV):Kt:=
 bnd (Qh (C m) 45 t1 6) fun v0=>
 bnd (Qh (C m) 40 v0 2) fun v1=>
 bnd (ldO (C m) 38 v1) fun v2=>
 bnd (Qv (C m) .len [38] [v2]) fun v3=>
 K7_24 m c t1 t2 t3 v2 v3 (I 0)
theorem K7_7_eq:D7 m c c7_7 (Z7 m) nx = (a3 (K7_7 m c) 1 2 3):=by
  refine Tq (D7 m c (pS1 (pS1 c7_7)) (D7 m c c7_24 (D7 m c c7_8 (Z7 m) nx) nx) nx) (by kernel_rfl) ?_
  rw [K7_8_eq m c ,K7_24_eq m c ]
  kernel_rfl
noncomputable def Zm (m:Nat) (c:Qd) (t1 t2 t3:AV):Kt:=
 bnd (Qh (C m) 45 t1 6) fun v0=>
 bnd (Qh (C m) 40 v0 0) fun v1=>
 bnd (ldO (C m) 22 v1) fun v2=>
 bnd (Qh (C m) 45 t1 6) fun v3=>
 bnd (Qh (C m) 40 v3 1) fun v4=>
 bnd (ldO (C m) 3 v4) fun v5=>
 bnd (Xp (C m) 61 [(0,v2),(1,v5)]) fun v6=>
 bnd (Qh (C m) 66 t3 6) fun v7=>
 bnd (stO (C m) 61 v7 v6) fun _=>
 K7_7 m c t1 t2 t3
theorem K7_6_eq:D7 m c c7_6 (Z7 m) nx = (a3 (Zm m c) 1 2 3):=by
  refine Tq (D7 m c (pS1 c7_6) (D7 m c c7_7 (Z7 m) nx) nx) (by kernel_rfl) ?_
  rw [K7_7_eq m c ]
  kernel_rfl
noncomputable def Zc (m:Nat) (c:Qd) (h38:AV→AV→AV→AV→AV→AV→Kt) (t1 t2 t3 t91 t92 t93:AV):Kt:=
 bnd (Qi (C m) .add 3 t93 (I 1)) fun v0=>
 h38 t1 t2 t3 t91 t92 v0
theorem K7_41_eq (h38:AV→AV→AV→AV→AV→AV→Kt):D7 m c c7_41 (a6 h38 1 2 3 91 92 93) (Qa 4 (a3 (Zm m c) 1 2 3) nx) = (a6 (Zc m c h38) 1 2 3 91 92 93):=by
  kernel_rfl
noncomputable def W4 (m:Nat) (c:Qd) (h38:AV→AV→AV→AV→AV→AV→Kt) (t1 t2 t3 t11 t91 t92 t93:AV):Kt:=
 bnd (Qh (C m) 66 t3 5) fun v0=>
 bnd (Qh (C m) 58 v0 2) fun v1=>
 bnd (ldO (C m) 56 v1) fun v2=>
 bnd (Vi (C m) 56 1 [(0,t11)]) fun v3=>
 bnd (Qv (C m) .append [56,56] [v2,v3]) fun v4=>
 bnd (Qh (C m) 66 t3 5) fun v5=>
 bnd (Qh (C m) 58 v5 2) fun v6=>
 bnd (stO (C m) 56 v6 v4) fun _=>
 Zc m c h38 t1 t2 t3 t91 t92 t93
theorem K7_44_eq (h38:AV→AV→AV→AV→AV→AV→Kt):D7 m c c7_44 (a6 (Zc m c h38) 1 2 3 91 92 93) (Qa 5 (a6 (Zc m c h38) 1 2 3 91 92 93) (Qa 4 (a3 (Zm m c) 1 2 3) nx)) = (a7 (W4 m c h38) 1 2 3 11 91 92 93):=by
  kernel_rfl
noncomputable def K7_49 (m:Nat) (c:Qd) (h38:AV→AV→AV→AV→AV→AV→Kt) (h46:AV→AV→AV→AV→AV→AV→AV→AV→AV→AV→Kt) (t1 t2 t3 t11 t91 t92 t93 t97 t98 t99:AV):Kt:=
 bnd (Qi (C m) .add 3 t99 (I 1)) fun v0=>
 h46 t1 t2 t3 t11 t91 t92 t93 t97 t98 v0
theorem K7_49_eq (h38:AV→AV→AV→AV→AV→AV→Kt) (h46:AV→AV→AV→AV→AV→AV→AV→AV→AV→AV→Kt):D7 m c c7_49 (a10 h46 1 2 3 11 91 92 93 97 98 99) (Qa 6 (a7 (W4 m c h38) 1 2 3 11 91 92 93) (Qa 5 (a6 (Zc m c h38) 1 2 3 91 92 93) (Qa 4 (a3 (Zm m c) 1 2 3) nx))) = (a10 (K7_49 m c h38 h46) 1 2 3 11 91 92 93 97 98 99):=by
  kernel_rfl
noncomputable def K7_48 (m:Nat) (c:Qd) (h38:AV→AV→AV→AV→AV→AV→Kt) (h46:AV→AV→AV→AV→AV→AV→AV→AV→AV→AV→Kt) (t1 t2 t3 t11 t91 t92 t93 t97 t98 t99:AV):Kt:=
 bnd (Q9 (C m) 94 t97 t99) fun v0=>
 bnd (ldO (C m) 97 v0) fun v1=>
 bnd (Xe (C m) 97) fun v2=>
 bnd (stO (C m) 97 v2 v1) fun _=>
 bnd (ldO (C m) 97 v2) fun v3=>
 bnd (Vi (C m) 95 1 [(0,v3)]) fun v4=>
 bnd (Qv (C m) .append [95,95] [t11,v4]) fun v5=>
 K7_49 m c h38 h46 t1 t2 t3 v5 t91 t92 t93 t97 t98 t99
theorem K7_48_eq (h38:AV→AV→AV→AV→AV→AV→Kt) (h46:AV→AV→AV→AV→AV→AV→AV→AV→AV→AV→Kt):D7 m c c7_48 (a10 h46 1 2 3 11 91 92 93 97 98 99) (Qa 6 (a7 (W4 m c h38) 1 2 3 11 91 92 93) (Qa 5 (a6 (Zc m c h38) 1 2 3 91 92 93) (Qa 4 (a3 (Zm m c) 1 2 3) nx))) = (a10 (K7_48 m c h38 h46) 1 2 3 11 91 92 93 97 98 99):=by
  refine Tq (D7 m c (pS1 (pB (pS1 c7_48))) (D7 m c (pS2 (pB (pS1 c7_48))) (D7 m c c7_49 (a10 h46 1 2 3 11 91 92 93 97 98 99) (Qa 6 (a7 (W4 m c h38) 1 2 3 11 91 92 93) (Qa 5 (a6 (Zc m c h38) 1 2 3 91 92 93) (Qa 4 (a3 (Zm m c) 1 2 3) nx)))) (Qa 7 (D7 m c c7_49 (a10 h46 1 2 3 11 91 92 93 97 98 99) (Qa 6 (a7 (W4 m c h38) 1 2 3 11 91 92 93) (Qa 5 (a6 (Zc m c h38) 1 2 3 91 92 93) (Qa 4 (a3 (Zm m c) 1 2 3) nx)))) (Qa 6 (a7 (W4 m c h38) 1 2 3 11 91 92 93) (Qa 5 (a6 (Zc m c h38) 1 2 3 91 92 93) (Qa 4 (a3 (Zm m c) 1 2 3) nx))))) (Qa 7 (D7 m c c7_49 (a10 h46 1 2 3 11 91 92 93 97 98 99) (Qa 6 (a7 (W4 m c h38) 1 2 3 11 91 92 93) (Qa 5 (a6 (Zc m c h38) 1 2 3 91 92 93) (Qa 4 (a3 (Zm m c) 1 2 3) nx)))) (Qa 6 (a7 (W4 m c h38) 1 2 3 11 91 92 93) (Qa 5 (a6 (Zc m c h38) 1 2 3 91 92 93) (Qa 4 (a3 (Zm m c) 1 2 3) nx))))) (by kernel_rfl) ?_
  rw [K7_49_eq m c h38 h46 ]
  kernel_rfl
noncomputable def K7_47 (m:Nat) (c:Qd) (h38:AV→AV→AV→AV→AV→AV→Kt) (h46:AV→AV→AV→AV→AV→AV→AV→AV→AV→AV→Kt) (t1 t2 t3 t11 t91 t92 t93 t97 t98 t99 t100:AV):Kt:=
 ifB t100
 ((K7_48 m c h38 h46 t1 t2 t3 t11 t91 t92 t93 t97 t98 t99))
 ((W4 m c h38 t1 t2 t3 t11 t91 t92 t93))
theorem K7_47_eq (h38:AV→AV→AV→AV→AV→AV→Kt) (h46:AV→AV→AV→AV→AV→AV→AV→AV→AV→AV→Kt):D7 m c c7_47 (a10 h46 1 2 3 11 91 92 93 97 98 99) (Qa 6 (a7 (W4 m c h38) 1 2 3 11 91 92 93) (Qa 5 (a6 (Zc m c h38) 1 2 3 91 92 93) (Qa 4 (a3 (Zm m c) 1 2 3) nx))) = (a11 (K7_47 m c h38 h46) 1 2 3 11 91 92 93 97 98 99 100):=by
  refine Tq (fun e=>ifB (e 100) ((D7 m c c7_48 (a10 h46 1 2 3 11 91 92 93 97 98 99) (Qa 6 (a7 (W4 m c h38) 1 2 3 11 91 92 93) (Qa 5 (a6 (Zc m c h38) 1 2 3 91 92 93) (Qa 4 (a3 (Zm m c) 1 2 3) nx)))) e) ((a7 (W4 m c h38) 1 2 3 11 91 92 93) e)) (by kernel_rfl) ?_
  rw [K7_48_eq m c h38 h46 ]
  kernel_rfl
noncomputable def L7_46_b (m:Nat) (c:Qd) (h38:AV→AV→AV→AV→AV→AV→Kt) (h46:AV→AV→AV→AV→AV→AV→AV→AV→AV→AV→Kt) (t1 t2 t3 t11 t91 t92 t93 t97 t98 t99:AV):Kt:=
 bnd (Qi (C m) .lss 3 t99 t98) fun v0=>
 K7_47 m c h38 h46 t1 t2 t3 t11 t91 t92 t93 t97 t98 t99 v0
noncomputable def L7_46 (m:Nat) (c:Qd) (h38:AV→AV→AV→AV→AV→AV→Kt) (n:Nat):AV→AV→AV→AV→AV→AV→AV→AV→AV→AV→Kt:=
 Nat.rec (motive:=fun _=>AV→AV→AV→AV→AV→AV→AV→AV→AV→AV→Kt) (fun t1 t2 t3 t11 t91 t92 t93 t97 t98 t99=>noK) (fun _ ih=>L7_46_b m c h38 ih) n
theorem L7_46_b_eq (h38:AV→AV→AV→AV→AV→AV→Kt) (h46:AV→AV→AV→AV→AV→AV→AV→AV→AV→AV→Kt):D7 m c c7_46 (a10 h46 1 2 3 11 91 92 93 97 98 99) (Qa 6 (a7 (W4 m c h38) 1 2 3 11 91 92 93) (Qa 5 (a6 (Zc m c h38) 1 2 3 91 92 93) (Qa 4 (a3 (Zm m c) 1 2 3) nx))) = fun e=>L7_46_b m c h38 h46 (e 1) (e 2) (e 3) (e 11) (e 91) (e 92) (e 93) (e 97) (e 98) (e 99):=by
  refine Tq (D7 m c (pS1 c7_46) (D7 m c c7_47 (a10 h46 1 2 3 11 91 92 93 97 98 99) (Qa 6 (a7 (W4 m c h38) 1 2 3 11 91 92 93) (Qa 5 (a6 (Zc m c h38) 1 2 3 91 92 93) (Qa 4 (a3 (Zm m c) 1 2 3) nx)))) (Qa 6 (a7 (W4 m c h38) 1 2 3 11 91 92 93) (Qa 5 (a6 (Zc m c h38) 1 2 3 91 92 93) (Qa 4 (a3 (Zm m c) 1 2 3) nx)))) (by kernel_rfl) ?_
  rw [K7_47_eq m c h38 h46 ]
  kernel_rfl
theorem L7_46_eq (h38:AV→AV→AV→AV→AV→AV→Kt) (n:Nat):(Qn (fun k=>D7 m c c7_46 k (Qa 6 (a7 (W4 m c h38) 1 2 3 11 91 92 93) (Qa 5 (a6 (Zc m c h38) 1 2 3 91 92 93) (Qa 4 (a3 (Zm m c) 1 2 3) nx)))) n) = (a10 (L7_46 m c h38 n) 1 2 3 11 91 92 93 97 98 99):=by
  induction n with
  | zero=>rfl
  | succ n ih=>
    show D7 m c c7_46 (Qn (fun k=>D7 m c c7_46 k (Qa 6 (a7 (W4 m c h38) 1 2 3 11 91 92 93) (Qa 5 (a6 (Zc m c h38) 1 2 3 91 92 93) (Qa 4 (a3 (Zm m c) 1 2 3) nx)))) n) (Qa 6 (a7 (W4 m c h38) 1 2 3 11 91 92 93) (Qa 5 (a6 (Zc m c h38) 1 2 3 91 92 93) (Qa 4 (a3 (Zm m c) 1 2 3) nx))) = _
    rw [ih,L7_46_b_eq m c h38 (L7_46 m c h38 n)]
    rfl
theorem L7_46_succ (h38:AV→AV→AV→AV→AV→AV→Kt) (n:Nat):L7_46 m c h38 (n + 1) = L7_46_b m c h38 (L7_46 m c h38 n):=rfl
noncomputable def K7_45 (m:Nat) (c:Qd) (h38:AV→AV→AV→AV→AV→AV→Kt) (t1 t2 t3 t11 t91 t92 t93 t97 t98 t99:AV):Kt:=
 L7_46 m c h38 m t1 t2 t3 t11 t91 t92 t93 t97 t98 t99
theorem K7_45_eq (h38:AV→AV→AV→AV→AV→AV→Kt):D7 m c c7_45 (a7 (W4 m c h38) 1 2 3 11 91 92 93) (Qa 5 (a6 (Zc m c h38) 1 2 3 91 92 93) (Qa 4 (a3 (Zm m c) 1 2 3) nx)) = (a10 (K7_45 m c h38) 1 2 3 11 91 92 93 97 98 99):=by
  refine Tq (Qn (fun k=>D7 m c c7_46 k (Qa 6 (a7 (W4 m c h38) 1 2 3 11 91 92 93) (Qa 5 (a6 (Zc m c h38) 1 2 3 91 92 93) (Qa 4 (a3 (Zm m c) 1 2 3) nx)))) m) (by kernel_rfl) ?_
  rw [L7_46_eq m c h38 m]
  kernel_rfl
noncomputable def K7_43 (m:Nat) (c:Qd) (h38:AV→AV→AV→AV→AV→AV→Kt) (t1 t2 t3 t10 t11 t91 t92 t93:AV):Kt:=
 bnd (Qv (C m) .len [94] [t10]) fun v0=>
 K7_45 m c h38 t1 t2 t3 t11 t91 t92 t93 t10 v0 (I 0)
theorem K7_43_eq (h38:AV→AV→AV→AV→AV→AV→Kt):D7 m c c7_43 (a6 (Zc m c h38) 1 2 3 91 92 93) (Qa 5 (a6 (Zc m c h38) 1 2 3 91 92 93) (Qa 4 (a3 (Zm m c) 1 2 3) nx)) = (a8 (K7_43 m c h38) 1 2 3 10 11 91 92 93):=by
  refine Tq (D7 m c (pS1 (pS1 c7_43)) (D7 m c c7_45 (D7 m c c7_44 (a6 (Zc m c h38) 1 2 3 91 92 93) (Qa 5 (a6 (Zc m c h38) 1 2 3 91 92 93) (Qa 4 (a3 (Zm m c) 1 2 3) nx))) (Qa 5 (a6 (Zc m c h38) 1 2 3 91 92 93) (Qa 4 (a3 (Zm m c) 1 2 3) nx))) (Qa 5 (a6 (Zc m c h38) 1 2 3 91 92 93) (Qa 4 (a3 (Zm m c) 1 2 3) nx))) (by kernel_rfl) ?_
  rw [K7_44_eq m c h38 ,K7_45_eq m c h38 ]
  kernel_rfl
noncomputable def K7_42 (m:Nat) (c:Qd) (h38:AV→AV→AV→AV→AV→AV→Kt) (t1 t2 t3 t10 t91 t92 t93:AV):Kt:=
 K7_43 m c h38 t1 t2 t3 t10 NS t91 t92 t93
theorem K7_42_eq (h38:AV→AV→AV→AV→AV→AV→Kt):D7 m c c7_42 (a6 (Zc m c h38) 1 2 3 91 92 93) (Qa 5 (a6 (Zc m c h38) 1 2 3 91 92 93) (Qa 4 (a3 (Zm m c) 1 2 3) nx)) = (a7 (K7_42 m c h38) 1 2 3 10 91 92 93):=by
  refine Tq (D7 m c (pS1 c7_42) (D7 m c c7_43 (a6 (Zc m c h38) 1 2 3 91 92 93) (Qa 5 (a6 (Zc m c h38) 1 2 3 91 92 93) (Qa 4 (a3 (Zm m c) 1 2 3) nx))) (Qa 5 (a6 (Zc m c h38) 1 2 3 91 92 93) (Qa 4 (a3 (Zm m c) 1 2 3) nx))) (by kernel_rfl) ?_
  rw [K7_43_eq m c h38 ]
  kernel_rfl
noncomputable def K7_40 (m:Nat) (c:Qd) (h38:AV→AV→AV→AV→AV→AV→Kt) (t1 t2 t3 t91 t92 t93:AV):Kt:=
 bnd (Q9 (C m) 35 t91 t93) fun v0=>
 bnd (ldO (C m) 94 v0) fun v1=>
 K7_42 m c h38 t1 t2 t3 v1 t91 t92 t93
theorem K7_40_eq (h38:AV→AV→AV→AV→AV→AV→Kt):D7 m c c7_40 (a6 h38 1 2 3 91 92 93) (Qa 4 (a3 (Zm m c) 1 2 3) nx) = (a6 (K7_40 m c h38) 1 2 3 91 92 93):=by
  refine Tq (D7 m c (pS1 (pB (pS1 c7_40))) (D7 m c c7_42 (D7 m c c7_41 (a6 h38 1 2 3 91 92 93) (Qa 4 (a3 (Zm m c) 1 2 3) nx)) (Qa 5 (D7 m c c7_41 (a6 h38 1 2 3 91 92 93) (Qa 4 (a3 (Zm m c) 1 2 3) nx)) (Qa 4 (a3 (Zm m c) 1 2 3) nx))) (Qa 5 (D7 m c c7_41 (a6 h38 1 2 3 91 92 93) (Qa 4 (a3 (Zm m c) 1 2 3) nx)) (Qa 4 (a3 (Zm m c) 1 2 3) nx))) (by kernel_rfl) ?_
  rw [K7_41_eq m c h38 ,K7_42_eq m c h38 ]
  kernel_rfl
noncomputable def K7_39 (m:Nat) (c:Qd) (h38:AV→AV→AV→AV→AV→AV→Kt) (t1 t2 t3 t91 t92 t93 t94:AV):Kt:=
 ifB t94
 ((K7_40 m c h38 t1 t2 t3 t91 t92 t93))
 ((Zm m c t1 t2 t3))
theorem K7_39_eq (h38:AV→AV→AV→AV→AV→AV→Kt):D7 m c c7_39 (a6 h38 1 2 3 91 92 93) (Qa 4 (a3 (Zm m c) 1 2 3) nx) = (a7 (K7_39 m c h38) 1 2 3 91 92 93 94):=by
  refine Tq (fun e=>ifB (e 94) ((D7 m c c7_40 (a6 h38 1 2 3 91 92 93) (Qa 4 (a3 (Zm m c) 1 2 3) nx)) e) ((a3 (Zm m c) 1 2 3) e)) (by kernel_rfl) ?_
  rw [K7_40_eq m c h38 ]
  kernel_rfl
noncomputable def L7_38_b (m:Nat) (c:Qd) (h38:AV→AV→AV→AV→AV→AV→Kt) (t1 t2 t3 t91 t92 t93:AV):Kt:=
 bnd (Qi (C m) .lss 3 t93 t92) fun v0=>
 K7_39 m c h38 t1 t2 t3 t91 t92 t93 v0
noncomputable def L7_38 (m:Nat) (c:Qd) (n:Nat):AV→AV→AV→AV→AV→AV→Kt:=
 Nat.rec (motive:=fun _=>AV→AV→AV→AV→AV→AV→Kt) (fun t1 t2 t3 t91 t92 t93=>noK) (fun _ ih=>L7_38_b m c ih) n
theorem L7_38_b_eq (h38:AV→AV→AV→AV→AV→AV→Kt):D7 m c c7_38 (a6 h38 1 2 3 91 92 93) (Qa 4 (a3 (Zm m c) 1 2 3) nx) = fun e=>L7_38_b m c h38 (e 1) (e 2) (e 3) (e 91) (e 92) (e 93):=by
  refine Tq (D7 m c (pS1 c7_38) (D7 m c c7_39 (a6 h38 1 2 3 91 92 93) (Qa 4 (a3 (Zm m c) 1 2 3) nx)) (Qa 4 (a3 (Zm m c) 1 2 3) nx)) (by kernel_rfl) ?_
  rw [K7_39_eq m c h38 ]
  kernel_rfl
theorem L7_38_eq (n:Nat):(Qn (fun k=>D7 m c c7_38 k (Qa 4 (a3 (Zm m c) 1 2 3) nx)) n) = (a6 (L7_38 m c n) 1 2 3 91 92 93):=by
  induction n with
  | zero=>rfl
  | succ n ih=>
    show D7 m c c7_38 (Qn (fun k=>D7 m c c7_38 k (Qa 4 (a3 (Zm m c) 1 2 3) nx)) n) (Qa 4 (a3 (Zm m c) 1 2 3) nx) = _
    rw [ih,L7_38_b_eq m c (L7_38 m c n)]
    rfl
theorem L7_38_succ (n:Nat):L7_38 m c (n + 1) = L7_38_b m c (L7_38 m c n):=rfl
noncomputable def K7_37 (m:Nat) (c:Qd) (t1 t2 t3 t91 t92 t93:AV):Kt:=
 L7_38 m c m t1 t2 t3 t91 t92 t93
theorem K7_37_eq:D7 m c c7_37 (a3 (Zm m c) 1 2 3) nx = (a6 (K7_37 m c) 1 2 3 91 92 93):=by
  refine Tq (Qn (fun k=>D7 m c c7_38 k (Qa 4 (a3 (Zm m c) 1 2 3) nx)) m) (by kernel_rfl) ?_
  rw [L7_38_eq m c m]
  kernel_rfl
noncomputable def K7_5 (m:Nat) (c:Qd) (t1 t2 t3:AV):Kt:=
 bnd (Qh (C m) 45 t1 5) fun v0=>
 bnd (Qh (C m) 37 v0 2) fun v1=>
 bnd (ldO (C m) 35 v1) fun v2=>
 bnd (Qv (C m) .len [35] [v2]) fun v3=>
 K7_37 m c t1 t2 t3 v2 v3 (I 0)
theorem K7_5_eq:D7 m c c7_5 (Z7 m) nx = (a3 (K7_5 m c) 1 2 3):=by
  refine Tq (D7 m c (pS1 (pS1 c7_5)) (D7 m c c7_37 (D7 m c c7_6 (Z7 m) nx) nx) nx) (by kernel_rfl) ?_
  rw [K7_6_eq m c ,K7_37_eq m c ]
  kernel_rfl
noncomputable def Zn (m:Nat) (c:Qd) (t1 t2 t3:AV):Kt:=
 bnd (Qh (C m) 45 t1 5) fun v0=>
 bnd (Qh (C m) 37 v0 0) fun v1=>
 bnd (ldO (C m) 22 v1) fun v2=>
 bnd (Qh (C m) 45 t1 5) fun v3=>
 bnd (Qh (C m) 37 v3 1) fun v4=>
 bnd (ldO (C m) 34 v4) fun v5=>
 bnd (Xp (C m) 58 [(0,v2),(1,v5)]) fun v6=>
 bnd (Qh (C m) 66 t3 5) fun v7=>
 bnd (stO (C m) 58 v7 v6) fun _=>
 K7_5 m c t1 t2 t3
theorem K7_4_eq:D7 m c c7_4 (Z7 m) nx = (a3 (Zn m c) 1 2 3):=by
  refine Tq (D7 m c (pS1 c7_4) (D7 m c c7_5 (Z7 m) nx) nx) (by kernel_rfl) ?_
  rw [K7_5_eq m c ]
  kernel_rfl
noncomputable def Zd (m:Nat) (c:Qd) (h51:AV→AV→AV→AV→AV→AV→Kt) (t1 t2 t3 t49 t50 t51:AV):Kt:=
 bnd (Qi (C m) .add 3 t51 (I 1)) fun v0=>
 h51 t1 t2 t3 t49 t50 v0
theorem K7_54_eq (h51:AV→AV→AV→AV→AV→AV→Kt):D7 m c c7_54 (a6 h51 1 2 3 49 50 51) (Qa 0 (a3 (Zn m c) 1 2 3) nx) = (a6 (Zd m c h51) 1 2 3 49 50 51):=by
  kernel_rfl
noncomputable def W5 (m:Nat) (c:Qd) (h51:AV→AV→AV→AV→AV→AV→Kt) (t1 t2 t3 t6 t49 t50 t51:AV):Kt:=
 bnd (Qh (C m) 66 t3 4) fun v0=>
 bnd (Qh (C m) 54 v0 3) fun v1=>
 bnd (ldO (C m) 51 v1) fun v2=>
 bnd (ldO (C m) 90 t6) fun v3=>
 bnd (Vi (C m) 51 1 [(0,v3)]) fun v4=>
 bnd (Qv (C m) .append [51,51] [v2,v4]) fun v5=>
 bnd (Qh (C m) 66 t3 4) fun v6=>
 bnd (Qh (C m) 54 v6 3) fun v7=>
 bnd (stO (C m) 51 v7 v5) fun _=>
 Zd m c h51 t1 t2 t3 t49 t50 t51
theorem K7_57_eq (h51:AV→AV→AV→AV→AV→AV→Kt):D7 m c c7_57 (a6 (Zd m c h51) 1 2 3 49 50 51) (Qa 1 (a6 (Zd m c h51) 1 2 3 49 50 51) (Qa 0 (a3 (Zn m c) 1 2 3) nx)) = (a7 (W5 m c h51) 1 2 3 6 49 50 51):=by
  kernel_rfl
noncomputable def K7_62 (m:Nat) (c:Qd) (h51:AV→AV→AV→AV→AV→AV→Kt) (h59:AV→AV→AV→AV→AV→AV→AV→AV→AV→AV→Kt) (t1 t2 t3 t6 t49 t50 t51 t59 t60 t61:AV):Kt:=
 bnd (Qi (C m) .add 3 t61 (I 1)) fun v0=>
 h59 t1 t2 t3 t6 t49 t50 t51 t59 t60 v0
theorem K7_62_eq (h51:AV→AV→AV→AV→AV→AV→Kt) (h59:AV→AV→AV→AV→AV→AV→AV→AV→AV→AV→Kt):D7 m c c7_62 (a10 h59 1 2 3 6 49 50 51 59 60 61) (Qa 2 (a7 (W5 m c h51) 1 2 3 6 49 50 51) (Qa 1 (a6 (Zd m c h51) 1 2 3 49 50 51) (Qa 0 (a3 (Zn m c) 1 2 3) nx))) = (a10 (K7_62 m c h51 h59) 1 2 3 6 49 50 51 59 60 61):=by
  kernel_rfl
noncomputable def K7_61 (m:Nat) (c:Qd) (h51:AV→AV→AV→AV→AV→AV→Kt) (h59:AV→AV→AV→AV→AV→AV→AV→AV→AV→AV→Kt) (t1 t2 t3 t6 t49 t50 t51 t59 t60 t61:AV):Kt:=
 bnd (Q9 (C m) 85 t59 t61) fun v0=>
 bnd (ldO (C m) 92 v0) fun v1=>
 bnd (Xe (C m) 92) fun v2=>
 bnd (stO (C m) 92 v2 v1) fun _=>
 bnd (Qh (C m) 90 t6 0) fun v3=>
 bnd (ldO (C m) 88 v3) fun v4=>
 bnd (ldO (C m) 92 v2) fun v5=>
 bnd (Vi (C m) 88 1 [(0,v5)]) fun v6=>
 bnd (Qv (C m) .append [88,88] [v4,v6]) fun v7=>
 bnd (Qh (C m) 90 t6 0) fun v8=>
 bnd (stO (C m) 88 v8 v7) fun _=>
 K7_62 m c h51 h59 t1 t2 t3 t6 t49 t50 t51 t59 t60 t61
theorem K7_61_eq (h51:AV→AV→AV→AV→AV→AV→Kt) (h59:AV→AV→AV→AV→AV→AV→AV→AV→AV→AV→Kt):D7 m c c7_61 (a10 h59 1 2 3 6 49 50 51 59 60 61) (Qa 2 (a7 (W5 m c h51) 1 2 3 6 49 50 51) (Qa 1 (a6 (Zd m c h51) 1 2 3 49 50 51) (Qa 0 (a3 (Zn m c) 1 2 3) nx))) = (a10 (K7_61 m c h51 h59) 1 2 3 6 49 50 51 59 60 61):=by
  refine Tq (D7 m c (pS1 (pB (pS1 c7_61))) (D7 m c (pS2 (pB (pS1 c7_61))) (D7 m c c7_62 (a10 h59 1 2 3 6 49 50 51 59 60 61) (Qa 2 (a7 (W5 m c h51) 1 2 3 6 49 50 51) (Qa 1 (a6 (Zd m c h51) 1 2 3 49 50 51) (Qa 0 (a3 (Zn m c) 1 2 3) nx)))) (Qa 3 (D7 m c c7_62 (a10 h59 1 2 3 6 49 50 51 59 60 61) (Qa 2 (a7 (W5 m c h51) 1 2 3 6 49 50 51) (Qa 1 (a6 (Zd m c h51) 1 2 3 49 50 51) (Qa 0 (a3 (Zn m c) 1 2 3) nx)))) (Qa 2 (a7 (W5 m c h51) 1 2 3 6 49 50 51) (Qa 1 (a6 (Zd m c h51) 1 2 3 49 50 51) (Qa 0 (a3 (Zn m c) 1 2 3) nx))))) (Qa 3 (D7 m c c7_62 (a10 h59 1 2 3 6 49 50 51 59 60 61) (Qa 2 (a7 (W5 m c h51) 1 2 3 6 49 50 51) (Qa 1 (a6 (Zd m c h51) 1 2 3 49 50 51) (Qa 0 (a3 (Zn m c) 1 2 3) nx)))) (Qa 2 (a7 (W5 m c h51) 1 2 3 6 49 50 51) (Qa 1 (a6 (Zd m c h51) 1 2 3 49 50 51) (Qa 0 (a3 (Zn m c) 1 2 3) nx))))) (by kernel_rfl) ?_
  rw [K7_62_eq m c h51 h59 ]
  kernel_rfl
noncomputable def K7_60 (m:Nat) (c:Qd) (h51:AV→AV→AV→AV→AV→AV→Kt) (h59:AV→AV→AV→AV→AV→AV→AV→AV→AV→AV→Kt) (t1 t2 t3 t6 t49 t50 t51 t59 t60 t61 t62:AV):Kt:=
 ifB t62
 ((K7_61 m c h51 h59 t1 t2 t3 t6 t49 t50 t51 t59 t60 t61))
 ((W5 m c h51 t1 t2 t3 t6 t49 t50 t51))
theorem K7_60_eq (h51:AV→AV→AV→AV→AV→AV→Kt) (h59:AV→AV→AV→AV→AV→AV→AV→AV→AV→AV→Kt):D7 m c c7_60 (a10 h59 1 2 3 6 49 50 51 59 60 61) (Qa 2 (a7 (W5 m c h51) 1 2 3 6 49 50 51) (Qa 1 (a6 (Zd m c h51) 1 2 3 49 50 51) (Qa 0 (a3 (Zn m c) 1 2 3) nx))) = (a11 (K7_60 m c h51 h59) 1 2 3 6 49 50 51 59 60 61 62):=by
  refine Tq (fun e=>ifB (e 62) ((D7 m c c7_61 (a10 h59 1 2 3 6 49 50 51 59 60 61) (Qa 2 (a7 (W5 m c h51) 1 2 3 6 49 50 51) (Qa 1 (a6 (Zd m c h51) 1 2 3 49 50 51) (Qa 0 (a3 (Zn m c) 1 2 3) nx)))) e) ((a7 (W5 m c h51) 1 2 3 6 49 50 51) e)) (by kernel_rfl) ?_
  rw [K7_61_eq m c h51 h59 ]
  kernel_rfl
noncomputable def L7_59_b (m:Nat) (c:Qd) (h51:AV→AV→AV→AV→AV→AV→Kt) (h59:AV→AV→AV→AV→AV→AV→AV→AV→AV→AV→Kt) (t1 t2 t3 t6 t49 t50 t51 t59 t60 t61:AV):Kt:=
 bnd (Qi (C m) .lss 3 t61 t60) fun v0=>
 K7_60 m c h51 h59 t1 t2 t3 t6 t49 t50 t51 t59 t60 t61 v0
noncomputable def L7_59 (m:Nat) (c:Qd) (h51:AV→AV→AV→AV→AV→AV→Kt) (n:Nat):AV→AV→AV→AV→AV→AV→AV→AV→AV→AV→Kt:=
 Nat.rec (motive:=fun _=>AV→AV→AV→AV→AV→AV→AV→AV→AV→AV→Kt) (fun t1 t2 t3 t6 t49 t50 t51 t59 t60 t61=>noK) (fun _ ih=>L7_59_b m c h51 ih) n
theorem L7_59_b_eq (h51:AV→AV→AV→AV→AV→AV→Kt) (h59:AV→AV→AV→AV→AV→AV→AV→AV→AV→AV→Kt):D7 m c c7_59 (a10 h59 1 2 3 6 49 50 51 59 60 61) (Qa 2 (a7 (W5 m c h51) 1 2 3 6 49 50 51) (Qa 1 (a6 (Zd m c h51) 1 2 3 49 50 51) (Qa 0 (a3 (Zn m c) 1 2 3) nx))) = fun e=>L7_59_b m c h51 h59 (e 1) (e 2) (e 3) (e 6) (e 49) (e 50) (e 51) (e 59) (e 60) (e 61):=by
  refine Tq (D7 m c (pS1 c7_59) (D7 m c c7_60 (a10 h59 1 2 3 6 49 50 51 59 60 61) (Qa 2 (a7 (W5 m c h51) 1 2 3 6 49 50 51) (Qa 1 (a6 (Zd m c h51) 1 2 3 49 50 51) (Qa 0 (a3 (Zn m c) 1 2 3) nx)))) (Qa 2 (a7 (W5 m c h51) 1 2 3 6 49 50 51) (Qa 1 (a6 (Zd m c h51) 1 2 3 49 50 51) (Qa 0 (a3 (Zn m c) 1 2 3) nx)))) (by kernel_rfl) ?_
  rw [K7_60_eq m c h51 h59 ]
  kernel_rfl
theorem L7_59_eq (h51:AV→AV→AV→AV→AV→AV→Kt) (n:Nat):(Qn (fun k=>D7 m c c7_59 k (Qa 2 (a7 (W5 m c h51) 1 2 3 6 49 50 51) (Qa 1 (a6 (Zd m c h51) 1 2 3 49 50 51) (Qa 0 (a3 (Zn m c) 1 2 3) nx)))) n) = (a10 (L7_59 m c h51 n) 1 2 3 6 49 50 51 59 60 61):=by
  induction n with
  | zero=>rfl
  | succ n ih=>
    show D7 m c c7_59 (Qn (fun k=>D7 m c c7_59 k (Qa 2 (a7 (W5 m c h51) 1 2 3 6 49 50 51) (Qa 1 (a6 (Zd m c h51) 1 2 3 49 50 51) (Qa 0 (a3 (Zn m c) 1 2 3) nx)))) n) (Qa 2 (a7 (W5 m c h51) 1 2 3 6 49 50 51) (Qa 1 (a6 (Zd m c h51) 1 2 3 49 50 51) (Qa 0 (a3 (Zn m c) 1 2 3) nx))) = _
    rw [ih,L7_59_b_eq m c h51 (L7_59 m c h51 n)]
    rfl
theorem L7_59_succ (h51:AV→AV→AV→AV→AV→AV→Kt) (n:Nat):L7_59 m c h51 (n + 1) = L7_59_b m c h51 (L7_59 m c h51 n):=rfl
noncomputable def K7_58 (m:Nat) (c:Qd) (h51:AV→AV→AV→AV→AV→AV→Kt) (t1 t2 t3 t6 t49 t50 t51 t59 t60 t61:AV):Kt:=
 L7_59 m c h51 m t1 t2 t3 t6 t49 t50 t51 t59 t60 t61
theorem K7_58_eq (h51:AV→AV→AV→AV→AV→AV→Kt):D7 m c c7_58 (a7 (W5 m c h51) 1 2 3 6 49 50 51) (Qa 1 (a6 (Zd m c h51) 1 2 3 49 50 51) (Qa 0 (a3 (Zn m c) 1 2 3) nx)) = (a10 (K7_58 m c h51) 1 2 3 6 49 50 51 59 60 61):=by
  refine Tq (Qn (fun k=>D7 m c c7_59 k (Qa 2 (a7 (W5 m c h51) 1 2 3 6 49 50 51) (Qa 1 (a6 (Zd m c h51) 1 2 3 49 50 51) (Qa 0 (a3 (Zn m c) 1 2 3) nx)))) m) (by kernel_rfl) ?_
  rw [L7_59_eq m c h51 m]
  kernel_rfl
noncomputable def K7_56 (m:Nat) (c:Qd) (h51:AV→AV→AV→AV→AV→AV→Kt) (t1 t2 t3 t5 t6 t49 t50 t51:AV):Kt:=
 bnd (Qh (C m) 87 t5 0) fun v0=>
 bnd (ldO (C m) 85 v0) fun v1=>
 bnd (Qv (C m) .len [85] [v1]) fun v2=>
 K7_58 m c h51 t1 t2 t3 t6 t49 t50 t51 v1 v2 (I 0)
theorem K7_56_eq (h51:AV→AV→AV→AV→AV→AV→Kt):D7 m c c7_56 (a6 (Zd m c h51) 1 2 3 49 50 51) (Qa 1 (a6 (Zd m c h51) 1 2 3 49 50 51) (Qa 0 (a3 (Zn m c) 1 2 3) nx)) = (a8 (K7_56 m c h51) 1 2 3 5 6 49 50 51):=by
  refine Tq (D7 m c (pS1 (pS1 c7_56)) (D7 m c c7_58 (D7 m c c7_57 (a6 (Zd m c h51) 1 2 3 49 50 51) (Qa 1 (a6 (Zd m c h51) 1 2 3 49 50 51) (Qa 0 (a3 (Zn m c) 1 2 3) nx))) (Qa 1 (a6 (Zd m c h51) 1 2 3 49 50 51) (Qa 0 (a3 (Zn m c) 1 2 3) nx))) (Qa 1 (a6 (Zd m c h51) 1 2 3 49 50 51) (Qa 0 (a3 (Zn m c) 1 2 3) nx))) (by kernel_rfl) ?_
  rw [K7_57_eq m c h51 ,K7_58_eq m c h51 ]
  kernel_rfl
noncomputable def K7_55 (m:Nat) (c:Qd) (h51:AV→AV→AV→AV→AV→AV→Kt) (t1 t2 t3 t5 t49 t50 t51:AV):Kt:=
 bnd (Qh (C m) 87 t5 1) fun v0=>
 bnd (ldO (C m) 3 v0) fun v1=>
 bnd (Xp (C m) 90 [(1,v1)]) fun v2=>
 bnd (Xe (C m) 90) fun v3=>
 bnd (stO (C m) 90 v3 v2) fun _=>
 K7_56 m c h51 t1 t2 t3 t5 v3 t49 t50 t51
theorem K7_55_eq (h51:AV→AV→AV→AV→AV→AV→Kt):D7 m c c7_55 (a6 (Zd m c h51) 1 2 3 49 50 51) (Qa 1 (a6 (Zd m c h51) 1 2 3 49 50 51) (Qa 0 (a3 (Zn m c) 1 2 3) nx)) = (a7 (K7_55 m c h51) 1 2 3 5 49 50 51):=by
  refine Tq (D7 m c (pS1 c7_55) (D7 m c c7_56 (a6 (Zd m c h51) 1 2 3 49 50 51) (Qa 1 (a6 (Zd m c h51) 1 2 3 49 50 51) (Qa 0 (a3 (Zn m c) 1 2 3) nx))) (Qa 1 (a6 (Zd m c h51) 1 2 3 49 50 51) (Qa 0 (a3 (Zn m c) 1 2 3) nx))) (by kernel_rfl) ?_
  rw [K7_56_eq m c h51 ]
  kernel_rfl
noncomputable def K7_53 (m:Nat) (c:Qd) (h51:AV→AV→AV→AV→AV→AV→Kt) (t1 t2 t3 t49 t50 t51:AV):Kt:=
 bnd (Q9 (C m) 26 t49 t51) fun v0=>
 bnd (ldO (C m) 87 v0) fun v1=>
 bnd (Xe (C m) 87) fun v2=>
 bnd (stO (C m) 87 v2 v1) fun _=>
 K7_55 m c h51 t1 t2 t3 v2 t49 t50 t51
theorem K7_53_eq (h51:AV→AV→AV→AV→AV→AV→Kt):D7 m c c7_53 (a6 h51 1 2 3 49 50 51) (Qa 0 (a3 (Zn m c) 1 2 3) nx) = (a6 (K7_53 m c h51) 1 2 3 49 50 51):=by
  refine Tq (D7 m c (pS1 (pB (pS1 c7_53))) (D7 m c c7_55 (D7 m c c7_54 (a6 h51 1 2 3 49 50 51) (Qa 0 (a3 (Zn m c) 1 2 3) nx)) (Qa 1 (D7 m c c7_54 (a6 h51 1 2 3 49 50 51) (Qa 0 (a3 (Zn m c) 1 2 3) nx)) (Qa 0 (a3 (Zn m c) 1 2 3) nx))) (Qa 1 (D7 m c c7_54 (a6 h51 1 2 3 49 50 51) (Qa 0 (a3 (Zn m c) 1 2 3) nx)) (Qa 0 (a3 (Zn m c) 1 2 3) nx))) (by kernel_rfl) ?_
  rw [K7_54_eq m c h51 ,K7_55_eq m c h51 ]
  kernel_rfl
noncomputable def K7_52 (m:Nat) (c:Qd) (h51:AV→AV→AV→AV→AV→AV→Kt) (t1 t2 t3 t49 t50 t51 t52:AV):Kt:=
 ifB t52
 ((K7_53 m c h51 t1 t2 t3 t49 t50 t51))
 ((Zn m c t1 t2 t3))
theorem K7_52_eq (h51:AV→AV→AV→AV→AV→AV→Kt):D7 m c c7_52 (a6 h51 1 2 3 49 50 51) (Qa 0 (a3 (Zn m c) 1 2 3) nx) = (a7 (K7_52 m c h51) 1 2 3 49 50 51 52):=by
  refine Tq (fun e=>ifB (e 52) ((D7 m c c7_53 (a6 h51 1 2 3 49 50 51) (Qa 0 (a3 (Zn m c) 1 2 3) nx)) e) ((a3 (Zn m c) 1 2 3) e)) (by kernel_rfl) ?_
  rw [K7_53_eq m c h51 ]
  kernel_rfl
noncomputable def L7_51_b (m:Nat) (c:Qd) (h51:AV→AV→AV→AV→AV→AV→Kt) (t1 t2 t3 t49 t50 t51:AV):Kt:=
 bnd (Qi (C m) .lss 3 t51 t50) fun v0=>
 K7_52 m c h51 t1 t2 t3 t49 t50 t51 v0
noncomputable def L7_51 (m:Nat) (c:Qd) (n:Nat):AV→AV→AV→AV→AV→AV→Kt:=
 Nat.rec (motive:=fun _=>AV→AV→AV→AV→AV→AV→Kt) (fun t1 t2 t3 t49 t50 t51=>noK) (fun _ ih=>L7_51_b m c ih) n
theorem L7_51_b_eq (h51:AV→AV→AV→AV→AV→AV→Kt):D7 m c c7_51 (a6 h51 1 2 3 49 50 51) (Qa 0 (a3 (Zn m c) 1 2 3) nx) = fun e=>L7_51_b m c h51 (e 1) (e 2) (e 3) (e 49) (e 50) (e 51):=by
  refine Tq (D7 m c (pS1 c7_51) (D7 m c c7_52 (a6 h51 1 2 3 49 50 51) (Qa 0 (a3 (Zn m c) 1 2 3) nx)) (Qa 0 (a3 (Zn m c) 1 2 3) nx)) (by kernel_rfl) ?_
  rw [K7_52_eq m c h51 ]
  kernel_rfl
theorem L7_51_eq (n:Nat):(Qn (fun k=>D7 m c c7_51 k (Qa 0 (a3 (Zn m c) 1 2 3) nx)) n) = (a6 (L7_51 m c n) 1 2 3 49 50 51):=by
  induction n with
  | zero=>rfl
  | succ n ih=>
    show D7 m c c7_51 (Qn (fun k=>D7 m c c7_51 k (Qa 0 (a3 (Zn m c) 1 2 3) nx)) n) (Qa 0 (a3 (Zn m c) 1 2 3) nx) = _
    rw [ih,L7_51_b_eq m c (L7_51 m c n)]
    rfl
theorem L7_51_succ (n:Nat):L7_51 m c (n + 1) = L7_51_b m c (L7_51 m c n):=rfl
noncomputable def K7_50 (m:Nat) (c:Qd) (t1 t2 t3 t49 t50 t51:AV):Kt:=
 L7_51 m c m t1 t2 t3 t49 t50 t51
theorem K7_50_eq:D7 m c c7_50 (a3 (Zn m c) 1 2 3) nx = (a6 (K7_50 m c) 1 2 3 49 50 51):=by
  refine Tq (Qn (fun k=>D7 m c c7_51 k (Qa 0 (a3 (Zn m c) 1 2 3) nx)) m) (by kernel_rfl) ?_
  rw [L7_51_eq m c m]
  kernel_rfl
noncomputable def K7_3 (m:Nat) (c:Qd) (t1 t2 t3:AV):Kt:=
 bnd (Qh (C m) 45 t1 4) fun v0=>
 bnd (Qh (C m) 31 v0 3) fun v1=>
 bnd (ldO (C m) 26 v1) fun v2=>
 bnd (Qv (C m) .len [26] [v2]) fun v3=>
 K7_50 m c t1 t2 t3 v2 v3 (I 0)
theorem K7_3_eq:D7 m c c7_3 (Z7 m) nx = (a3 (K7_3 m c) 1 2 3):=by
  refine Tq (D7 m c (pS1 (pS1 c7_3)) (D7 m c c7_50 (D7 m c c7_4 (Z7 m) nx) nx) nx) (by kernel_rfl) ?_
  rw [K7_4_eq m c ,K7_50_eq m c ]
  kernel_rfl
noncomputable def K7_2 (m:Nat) (c:Qd) (t1 t2 t3:AV):Kt:=
 bnd (Qh (C m) 45 t1 4) fun v0=>
 bnd (Qh (C m) 31 v0 0) fun v1=>
 bnd (ldO (C m) 22 v1) fun v2=>
 bnd (Qh (C m) 45 t1 4) fun v3=>
 bnd (Qh (C m) 31 v3 1) fun v4=>
 bnd (ldO (C m) 3 v4) fun v5=>
 bnd (Qh (C m) 45 t1 4) fun v6=>
 bnd (Qh (C m) 31 v6 2) fun v7=>
 bnd (ldO (C m) 3 v7) fun v8=>
 bnd (Qh (C m) 45 t1 4) fun v9=>
 bnd (Qh (C m) 31 v9 4) fun v10=>
 bnd (ldO (C m) 29 v10) fun v11=>
 bnd (Xp (C m) 54 [(0,v2),(1,v5),(2,v8),(4,v11)]) fun v12=>
 bnd (Qh (C m) 66 t3 4) fun v13=>
 bnd (stO (C m) 54 v13 v12) fun _=>
 K7_3 m c t1 t2 t3
theorem K7_2_eq:D7 m c c7_2 (Z7 m) nx = (a3 (K7_2 m c) 1 2 3):=by
  refine Tq (D7 m c (pS1 c7_2) (D7 m c c7_3 (Z7 m) nx) nx) (by kernel_rfl) ?_
  rw [K7_3_eq m c ]
  kernel_rfl
noncomputable def K7_1 (m:Nat) (c:Qd) (t1 t2:AV):Kt:=
 bnd (Qh (C m) 45 t1 0) fun v0=>
 bnd (ldO (C m) 24 v0) fun v1=>
 bnd (Qh (C m) 45 t1 1) fun v2=>
 bnd (ldO (C m) 3 v2) fun v3=>
 bnd (Qh (C m) 45 t1 2) fun v4=>
 bnd (ldO (C m) 3 v4) fun v5=>
 bnd (Qh (C m) 45 t1 3) fun v6=>
 bnd (ldO (C m) 25 v6) fun v7=>
 bnd (Xp (C m) 66 [(0,v1),(1,v3),(2,v5),(3,v7)]) fun v8=>
 bnd (Xe (C m) 66) fun v9=>
 bnd (stO (C m) 66 v9 v8) fun _=>
 K7_2 m c t1 t2 v9
theorem K7_1_eq:D7 m c c7_1 (Z7 m) nx = (a2 (K7_1 m c) 1 2):=by
  refine Tq (D7 m c (pS1 c7_1) (D7 m c c7_2 (Z7 m) nx) nx) (by kernel_rfl) ?_
  rw [K7_2_eq m c ]
  kernel_rfl
noncomputable def K7_0 (m:Nat) (c:Qd) (t0:AV):Kt:=
 bnd (Z2 45 t0) fun v0=>
 bnd (Xe (C m) 66) fun v1=>
 K7_1 m c v0 v1
theorem K7_0_eq:D7 m c c7_0 (Z7 m) nx = (a1 (K7_0 m c) 0):=by
  refine Tq (D7 m c (pS1 c7_0) (D7 m c c7_1 (Z7 m) nx) nx) (by kernel_rfl) ?_
  rw [K7_1_eq m c ]
  kernel_rfl
theorem F7_eq (t0:AV):Qu (C m) c Tryz.f7 [t0] = K7_0 m c t0:=by
  refine Tq ((D7 m c c7_0 (Z7 m) nx) (Xl [t0])) (by kernel_rfl) ?_
  rw [K7_0_eq m c]
  rfl
end Go.Proofs.YtjfgdcegpgoobaaGreatDoor
