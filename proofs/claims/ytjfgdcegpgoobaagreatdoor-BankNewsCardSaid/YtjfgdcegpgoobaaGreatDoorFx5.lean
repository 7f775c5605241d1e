/- Functions of the program as plain functions over the interpreter's words, and the theorems that they are what the interpreter makes of the code. -/
import Derived.Test.YtjfgdcegpgoobaaGreatDoorCx
set_option linter.unusedVariables false
namespace Go.Proofs.YtjfgdcegpgoobaaGreatDoor
open Go.Run
set_option maxRecDepth 100000
open Go
variable (m:Nat) (c:Qd)
noncomputable def c9_0:Code:=(Qw Tryz.f9)
noncomputable def c9_1:Code:=(pS2 c9_0)
noncomputable def Z9 (m:Nat):=fun (e:Nat→AV)=>Qo (C m) (Xh e Tryz.f9.results.toList)
noncomputable def D9 (m:Nat) (c:Qd) (p:Code) (k:TE→Kt) (x:Nat→TE→Kt):=Q2 p (C m) c k x (Z9 m)
noncomputable def K9_1 (m:Nat) (c:Qd) (t1:AV):Kt:=
 bnd (Qh (C m) 45 t1 0) fun v0=>
 bnd (ldO (C m) 24 v0) fun v1=>
 bnd (Qy (C m) c (fnV 4) [v1]) fun v2=>
 bnd (Vz v2 0) fun v3=>
 bnd (Vz v2 1) fun v4=>
 bnd (Xe (C m) 45) fun v5=>
 bnd (stO (C m) 45 v5 v3) fun _=>
 bnd (Qi (C m) .neq 46 v4 (I 0)) fun v6=>
 bnd (gdO (Qc v6 false) (Qh (C m) 45 t1 1)) fun v7=>
 bnd (gdO (Qc v6 false) (ldO (C m) 3 v7)) fun v8=>
 bnd (gdO (Qc v6 false) (Qy (C m) c (fnV 26) [v8])) fun v9=>
 bnd (gdO (Qc v6 false) (unO .not v9)) fun v10=>
 bnd (Qm v6 (B true) v10) fun v11=>
 bnd (gdO (Qc v11 false) (Qh (C m) 45 t1 2)) fun v12=>
 bnd (gdO (Qc v11 false) (ldO (C m) 3 v12)) fun v13=>
 bnd (gdO (Qc v11 false) (Qy (C m) c (fnV 26) [v13])) fun v14=>
 bnd (gdO (Qc v11 false) (unO .not v14)) fun v15=>
 bnd (Qm v11 (B true) v15) fun v16=>
 bnd (gdO (Qc v16 false) (Qh (C m) 45 t1 3)) fun v17=>
 bnd (gdO (Qc v16 false) (ldO (C m) 25 v17)) fun v18=>
 bnd (gdO (Qc v16 false) (Qv (C m) .len [25] [v18])) fun v19=>
 bnd (gdO (Qc v16 false) (Qi (C m) .neq 3 v19 (I 18))) fun v20=>
 bnd (Qm v16 (B true) v20) fun v21=>
 bnd (gdO (Qc v21 false) (Qh (C m) 45 t1 3)) fun v22=>
 bnd (gdO (Qc v21 false) (ldO (C m) 25 v22)) fun v23=>
 bnd (gdO (Qc v21 false) (Qy (C m) c (fnV 27) [v23,(fnV 28)])) fun v24=>
 bnd (Qm v21 (B true) v24) fun v25=>
 ifB v25
 ((Qo (C m) [(none,(B false))]))
 ((bnd (ldO (C m) 45 v5) fun v26=>
 bnd (ldO (C m) 45 t1) fun v27=>
 bnd (Qy (C m) c (fnV 29) [v26,v27]) fun v28=>
 bnd (gdO (Qc v28 true) (ldO (C m) 45 t1)) fun v29=>
 bnd (gdO (Qc v28 true) (Qy (C m) c (fnV 30) [v29])) fun v30=>
 bnd (Qm v28 v30 (B false)) fun v31=>
 Qo (C m) [(none,v31)]))
theorem K9_1_eq:D9 m c c9_1 (Z9 m) nx = (a1 (K9_1 m c) 1):=by
  refine Tq (D9 m c (pS1 c9_1) (D9 m c (pS1 (pS1 (pS2 c9_1))) (fun e=>ifB (e 35) ((D9 m c (pS1 (pC1 (pS2 (pS1 (pS2 c9_1))))) (Z9 m) nx) e) ((D9 m c (pS1 (pS2 (pS2 c9_1))) (Z9 m) nx) e)) nx) nx) (by kernel_rfl) ?_
  kernel_rfl
noncomputable def K9_0 (m:Nat) (c:Qd) (t0:AV):Kt:=
 bnd (Z2 45 t0) fun v0=>
 K9_1 m c v0
theorem K9_0_eq:D9 m c c9_0 (Z9 m) nx = (a1 (K9_0 m c) 0):=by
  refine Tq (D9 m c (pS1 c9_0) (D9 m c c9_1 (Z9 m) nx) nx) (by kernel_rfl) ?_
  rw [K9_1_eq m c ]
  kernel_rfl
theorem F9_eq (t0:AV):Qu (C m) c Tryz.f9 [t0] = K9_0 m c t0:=by
  refine Tq ((D9 m c c9_0 (Z9 m) nx) (Xl [t0])) (by kernel_rfl) ?_
  rw [K9_0_eq m c]
  rfl
noncomputable def c26_0:Code:=(Qw Tryz.f26)
noncomputable def Z26 (m:Nat):=fun (e:Nat→AV)=>Qo (C m) (Xh e Tryz.f26.results.toList)
noncomputable def D26 (m:Nat) (c:Qd) (p:Code) (k:TE→Kt) (x:Nat→TE→Kt):=Q2 p (C m) c k x (Z26 m)
noncomputable def K26_0 (m:Nat) (c:Qd) (t0:AV):Kt:=
 bnd (Qi (C m) .geq 3 t0 (I 0)) fun v0=>
 bnd (gdO (Qc v0 true) (fun _=>.val t0)) fun v1=>
 bnd (gdO (Qc v0 true) (Qi (C m) .leq 3 v1 (I 1099511627776))) fun v2=>
 bnd (Qm v0 v2 (B false)) fun v3=>
 Qo (C m) [(none,v3)]
theorem K26_0_eq:D26 m c c26_0 (Z26 m) nx = (a1 (K26_0 m c) 0):=by
  refine Tq (D26 m c (pS1 c26_0) (D26 m c (pS1 (pS2 c26_0)) (Z26 m) nx) nx) (by kernel_rfl) ?_
  kernel_rfl
theorem F26_eq (t0:AV):Qu (C m) c Tryz.f26 [t0] = K26_0 m c t0:=by
  refine Tq ((D26 m c c26_0 (Z26 m) nx) (Xl [t0])) (by kernel_rfl) ?_
  rw [K26_0_eq m c]
  rfl
noncomputable def c27_0:Code:=(Qw Tryz.f27)
noncomputable def Z27 (m:Nat):=fun (e:Nat→AV)=>Qo (C m) (Xh e Tryz.f27.results.toList)
noncomputable def D27 (m:Nat) (c:Qd) (p:Code) (k:TE→Kt) (x:Nat→TE→Kt):=Q2 p (C m) c k x (Z27 m)
noncomputable def K27_0 (m:Nat) (c:Qd) (t0 t1:AV):Kt:=
 bnd (Qy (C m) c (fnV 68) [t0,t1]) fun v0=>
 bnd (Qi (C m) .geq 3 v0 (I 0)) fun v1=>
 Qo (C m) [(none,v1)]
theorem K27_0_eq:D27 m c c27_0 (Z27 m) nx = (a2 (K27_0 m c) 0 1):=by
  refine Tq (D27 m c (pS1 c27_0) (D27 m c (pS1 (pS2 c27_0)) (Z27 m) nx) nx) (by kernel_rfl) ?_
  kernel_rfl
theorem F27_eq (t0 t1:AV):Qu (C m) c Tryz.f27 [t0,t1] = K27_0 m c t0 t1:=by
  refine Tq ((D27 m c c27_0 (Z27 m) nx) (Xl [t0,t1])) (by kernel_rfl) ?_
  rw [K27_0_eq m c]
  rfl
noncomputable def c68_0:Code:=(Qw Tryz.f68)
noncomputable def c68_1:Code:=(pS2 c68_0)
noncomputable def c68_2:Code:=(pS2 c68_1)
noncomputable def c68_3:Code:=(pS2 (pS1 c68_1))
noncomputable def c68_4:Code:=(pL (pB c68_3))
noncomputable def c68_5:Code:=(pS2 c68_4)
noncomputable def c68_6:Code:=(pS2 c68_5)
noncomputable def c68_7:Code:=(pS2 c68_6)
noncomputable def Z68 (m:Nat):=fun (e:Nat→AV)=>Qo (C m) (Xh e Tryz.f68.results.toList)
noncomputable def D68 (m:Nat) (c:Qd) (p:Code) (k:TE→Kt) (x:Nat→TE→Kt):=Q2 p (C m) c k x (Z68 m)
noncomputable def We (m:Nat) (c:Qd):Kt:=
 Qo (C m) [(none,(I (-1)))]
theorem K68_2_eq:D68 m c c68_2 (Z68 m) nx = (a0 (We m c)):=by
  refine Tq (D68 m c (pS1 c68_2) (Z68 m) nx) (by kernel_rfl) ?_
  kernel_rfl
noncomputable def K68_7 (m:Nat) (c:Qd) (h4:AV→AV→AV→AV→Kt) (t0 t1 t7 t8:AV):Kt:=
 bnd (Qi (C m) .add 3 t8 (I 1)) fun v0=>
 h4 t0 t1 t7 v0
theorem K68_7_eq (h4:AV→AV→AV→AV→Kt):D68 m c c68_7 (a4 h4 0 1 7 8) (Qa 0 (a0 (We m c)) nx) = (a4 (K68_7 m c h4) 0 1 7 8):=by
  kernel_rfl
noncomputable def K68_6 (m:Nat) (c:Qd) (h4:AV→AV→AV→AV→Kt) (t0 t1 t7 t8:AV):Kt:=
 bnd (Q9 (C m) 25 t0 t8) fun v0=>
 bnd (ldO (C m) 3 v0) fun v1=>
 bnd (Qy (C m) c t1 [v1]) fun v2=>
 ifB v2
 ((Qo (C m) [(none,t8)]))
 ((K68_7 m c h4 t0 t1 t7 t8))
theorem K68_6_eq (h4:AV→AV→AV→AV→Kt):D68 m c c68_6 (a4 h4 0 1 7 8) (Qa 0 (a0 (We m c)) nx) = (a4 (K68_6 m c h4) 0 1 7 8):=by
  refine Tq (D68 m c (pS1 (pB (pS1 c68_6))) (D68 m c (pS1 (pS2 (pB (pS1 c68_6)))) (fun e=>ifB (e 16) ((D68 m c (pS1 (pC1 (pS2 (pS2 (pB (pS1 c68_6)))))) (Z68 m) (Qa 1 (D68 m c c68_7 (a4 h4 0 1 7 8) (Qa 0 (a0 (We m c)) nx)) (Qa 0 (a0 (We m c)) nx))) e) ((D68 m c c68_7 (a4 h4 0 1 7 8) (Qa 0 (a0 (We m c)) nx)) e)) (Qa 1 (D68 m c c68_7 (a4 h4 0 1 7 8) (Qa 0 (a0 (We m c)) nx)) (Qa 0 (a0 (We m c)) nx))) (Qa 1 (D68 m c c68_7 (a4 h4 0 1 7 8) (Qa 0 (a0 (We m c)) nx)) (Qa 0 (a0 (We m c)) nx))) (by kernel_rfl) ?_
  rw [K68_7_eq m c h4 ]
  kernel_rfl
noncomputable def K68_5 (m:Nat) (c:Qd) (h4:AV→AV→AV→AV→Kt) (t0 t1 t7 t8 t9:AV):Kt:=
 ifB t9
 ((K68_6 m c h4 t0 t1 t7 t8))
 ((We m c))
theorem K68_5_eq (h4:AV→AV→AV→AV→Kt):D68 m c c68_5 (a4 h4 0 1 7 8) (Qa 0 (a0 (We m c)) nx) = (a5 (K68_5 m c h4) 0 1 7 8 9):=by
  refine Tq (fun e=>ifB (e 9) ((D68 m c c68_6 (a4 h4 0 1 7 8) (Qa 0 (a0 (We m c)) nx)) e) ((a0 (We m c)) e)) (by kernel_rfl) ?_
  rw [K68_6_eq m c h4 ]
  kernel_rfl
noncomputable def L68_4_b (m:Nat) (c:Qd) (h4:AV→AV→AV→AV→Kt) (t0 t1 t7 t8:AV):Kt:=
 bnd (Qi (C m) .lss 3 t8 t7) fun v0=>
 K68_5 m c h4 t0 t1 t7 t8 v0
noncomputable def L68_4 (m:Nat) (c:Qd) (n:Nat):AV→AV→AV→AV→Kt:=
 Nat.rec (motive:=fun _=>AV→AV→AV→AV→Kt) (fun t0 t1 t7 t8=>noK) (fun _ ih=>L68_4_b m c ih) n
theorem L68_4_b_eq (h4:AV→AV→AV→AV→Kt):D68 m c c68_4 (a4 h4 0 1 7 8) (Qa 0 (a0 (We m c)) nx) = fun e=>L68_4_b m c h4 (e 0) (e 1) (e 7) (e 8):=by
  refine Tq (D68 m c (pS1 c68_4) (D68 m c c68_5 (a4 h4 0 1 7 8) (Qa 0 (a0 (We m c)) nx)) (Qa 0 (a0 (We m c)) nx)) (by kernel_rfl) ?_
  rw [K68_5_eq m c h4 ]
  kernel_rfl
theorem L68_4_eq (n:Nat):(Qn (fun k=>D68 m c c68_4 k (Qa 0 (a0 (We m c)) nx)) n) = (a4 (L68_4 m c n) 0 1 7 8):=by
  induction n with
  | zero=>rfl
  | succ n ih=>
    show D68 m c c68_4 (Qn (fun k=>D68 m c c68_4 k (Qa 0 (a0 (We m c)) nx)) n) (Qa 0 (a0 (We m c)) nx) = _
    rw [ih,L68_4_b_eq m c (L68_4 m c n)]
    rfl
theorem L68_4_succ (n:Nat):L68_4 m c (n + 1) = L68_4_b m c (L68_4 m c n):=rfl
noncomputable def K68_3 (m:Nat) (c:Qd) (t0 t1 t7 t8:AV):Kt:=
 L68_4 m c m t0 t1 t7 t8
theorem K68_3_eq:D68 m c c68_3 (a0 (We m c)) nx = (a4 (K68_3 m c) 0 1 7 8):=by
  refine Tq (Qn (fun k=>D68 m c c68_4 k (Qa 0 (a0 (We m c)) nx)) m) (by kernel_rfl) ?_
  rw [L68_4_eq m c m]
  kernel_rfl
noncomputable def K68_1 (m:Nat) (c:Qd) (t0 t1:AV):Kt:=
 bnd (Qv (C m) .len [25] [t0]) fun v0=>
 K68_3 m c t0 t1 v0 (I 0)
theorem K68_1_eq:D68 m c c68_1 (Z68 m) nx = (a2 (K68_1 m c) 0 1):=by
  refine Tq (D68 m c (pS1 (pS1 c68_1)) (D68 m c c68_3 (D68 m c c68_2 (Z68 m) nx) nx) nx) (by kernel_rfl) ?_
  rw [K68_2_eq m c ,K68_3_eq m c ]
  kernel_rfl
noncomputable def K68_0 (m:Nat) (c:Qd) (t0 t1:AV):Kt:=
 K68_1 m c t0 t1
theorem K68_0_eq:D68 m c c68_0 (Z68 m) nx = (a2 (K68_0 m c) 0 1):=by
  refine Tq (D68 m c (pS1 c68_0) (D68 m c c68_1 (Z68 m) nx) nx) (by kernel_rfl) ?_
  rw [K68_1_eq m c ]
  kernel_rfl
theorem F68_eq (t0 t1:AV):Qu (C m) c Tryz.f68 [t0,t1] = K68_0 m c t0 t1:=by
  refine Tq ((D68 m c c68_0 (Z68 m) nx) (Xl [t0,t1])) (by kernel_rfl) ?_
  rw [K68_0_eq m c]
  rfl
noncomputable def c28_0:Code:=(Qw Tryz.f28)
noncomputable def Z28 (m:Nat):=fun (e:Nat→AV)=>Qo (C m) (Xh e Tryz.f28.results.toList)
noncomputable def D28 (m:Nat) (c:Qd) (p:Code) (k:TE→Kt) (x:Nat→TE→Kt):=Q2 p (C m) c k x (Z28 m)
noncomputable def K28_0 (m:Nat) (c:Qd) (t0:AV):Kt:=
 bnd (Qy (C m) c (fnV 26) [t0]) fun v0=>
 bnd (unO .not v0) fun v1=>
 Qo (C m) [(none,v1)]
theorem K28_0_eq:D28 m c c28_0 (Z28 m) nx = (a1 (K28_0 m c) 0):=by
  refine Tq (D28 m c (pS1 c28_0) (D28 m c (pS1 (pS2 c28_0)) (Z28 m) nx) nx) (by kernel_rfl) ?_
  kernel_rfl
theorem F28_eq (t0:AV):Qu (C m) c Tryz.f28 [t0] = K28_0 m c t0:=by
  refine Tq ((D28 m c c28_0 (Z28 m) nx) (Xl [t0])) (by kernel_rfl) ?_
  rw [K28_0_eq m c]
  rfl
noncomputable def c29_0:Code:=(Qw Tryz.f29)
noncomputable def c29_1:Code:=(pS2 c29_0)
noncomputable def c29_2:Code:=(pS2 c29_1)
noncomputable def c29_3:Code:=(pS2 c29_2)
noncomputable def c29_4:Code:=(pS2 c29_3)
noncomputable def c29_5:Code:=(pS2 c29_4)
noncomputable def c29_6:Code:=(pS2 c29_5)
noncomputable def c29_7:Code:=(pS2 c29_6)
noncomputable def c29_8:Code:=(pS2 c29_7)
noncomputable def c29_9:Code:=(pS2 c29_8)
noncomputable def Z29 (m:Nat):=fun (e:Nat→AV)=>Qo (C m) (Xh e Tryz.f29.results.toList)
noncomputable def D29 (m:Nat) (c:Qd) (p:Code) (k:TE→Kt) (x:Nat→TE→Kt):=Q2 p (C m) c k x (Z29 m)
noncomputable def K29_9 (m:Nat) (c:Qd) (t2 t3:AV):Kt:=
 atN 8 fun v0=>
 dIn fun sv0=>
 Qk (Qh (C m) 45 t2 7) fun v1=>
 Qr (ldO (C m) 43 v1) fun v2=>
 Vw (Xe (C m) 43) (Nat.add v0 4) fun v3=>
 Vw (Xe (C m) 43) (Nat.add v0 5) fun v4=>
 Xn (stO (C m) 43 v3 v2) fun v5 sv5=>
 Qk (Qh (C m) 45 t3 7) fun v6=>
 Ze (some true) (ldO (C m) 43 v6) (fun v7=>(Xk (ldO (C m) 43 v6) v7 sv5 && (Xk (ldO (C m) 43 v6) v7 sv0 && true))) fun v8=>
 Xn (stO (C m) 43 v4 v8) fun v9 sv9=>
 dIn fun sv10=>
 Qr (ldO (C m) 43 v4) fun v11=>
 Xn (Qy (C m) c (fnV 72) [v11]) fun v12 sv12=>
 Qk (unO .not v12) fun v13=>
 Qk (gdO (Qc v13 false) (Qh (C m) 43 v3 0)) fun v14=>
 Qr (gdO (Qc v13 false) (ldO (C m) 22 v14)) fun v15=>
 Qk (gdO (Qc v13 false) (Qh (C m) 43 v4 0)) fun v16=>
 Qr (gdO (Qc v13 false) (ldO (C m) 22 v16)) fun v17=>
 Qk (gdO (Qc v13 false) (Qi (C m) .neq 22 v15 v17)) fun v18=>
 Qk (Qm v13 (B true) v18) fun v19=>
 Qk (gdO (Qc v19 false) (Qh (C m) 43 v3 1)) fun v20=>
 Qr (gdO (Qc v19 false) (ldO (C m) 41 v20)) fun v21=>
 Qr (gdO (Qc v19 false) (Qv (C m) .len [41] [v21])) fun v22=>
 Qk (gdO (Qc v19 false) (Qh (C m) 43 v4 1)) fun v23=>
 Qr (gdO (Qc v19 false) (ldO (C m) 41 v23)) fun v24=>
 Qr (gdO (Qc v19 false) (Qv (C m) .len [41] [v24])) fun v25=>
 Qk (gdO (Qc v19 false) (Qi (C m) .neq 3 v22 v25)) fun v26=>
 Qk (Qm v19 (B true) v26) fun v27=>
 Qk (gdO (Qc v27 false) (Qh (C m) 43 v3 1)) fun v28=>
 Qr (gdO (Qc v27 false) (ldO (C m) 41 v28)) fun v29=>
 Qk (gdO (Qc v27 false) (Q9 (C m) 41 v29 (I 0))) fun v30=>
 Qr (gdO (Qc v27 false) (ldO (C m) 111 v30)) fun v31=>
 Qr (gdO (Qc v27 false) (Qv (C m) .len [111] [v31])) fun v32=>
 Qk (gdO (Qc v27 false) (Qh (C m) 43 v4 1)) fun v33=>
 Qr (gdO (Qc v27 false) (ldO (C m) 41 v33)) fun v34=>
 Qk (gdO (Qc v27 false) (Q9 (C m) 41 v34 (I 0))) fun v35=>
 Qr (gdO (Qc v27 false) (ldO (C m) 111 v35)) fun v36=>
 Qr (gdO (Qc v27 false) (Qv (C m) .len [111] [v36])) fun v37=>
 Qk (gdO (Qc v27 false) (Qi (C m) .neq 3 v32 v37)) fun v38=>
 Qk (Qm v27 (B true) v38) fun v39=>
 ifB v39
 ((Qo (C m) [(none,(B false))]))
 ((dIn fun sv40=>
 Qk (Qh (C m) 43 v3 1) fun v41=>
 Qr (ldO (C m) 41 v41) fun v42=>
 Qk (Q9 (C m) 41 v42 (I 0)) fun v43=>
 Qr (ldO (C m) 111 v43) fun v44=>
 Qk (Q9 (C m) 111 v44 (I 0)) fun v45=>
 Qk (Qh (C m) 117 v45 0) fun v46=>
 Qk (Qh (C m) 115 v46 1) fun v47=>
 Qr (ldO (C m) 113 v47) fun v48=>
 Qk (Qh (C m) 43 v4 1) fun v49=>
 Qr (ldO (C m) 41 v49) fun v50=>
 Qk (Q9 (C m) 41 v50 (I 0)) fun v51=>
 Qr (ldO (C m) 111 v51) fun v52=>
 Qk (Q9 (C m) 111 v52 (I 0)) fun v53=>
 Qk (Qh (C m) 117 v53 0) fun v54=>
 Qk (Qh (C m) 115 v54 1) fun v55=>
 Qr (ldO (C m) 113 v55) fun v56=>
 dIn fun sv57=>
 Qr (Qv (C m) .len [113] [v48]) fun v58=>
 Qr (Qv (C m) .len [113] [v56]) fun v59=>
 Qk (Qi (C m) .eql 3 v58 v59) fun v60=>
 Qk (gdO (Qc v60 true) (fun _=>.val v48)) fun v61=>
 Qk (gdO (Qc v60 true) (Q9 (C m) 113 v61 (I 0))) fun v62=>
 Qr (gdO (Qc v60 true) (ldO (C m) 32 v62)) fun v63=>
 Qr (gdO (Qc v60 true) (Qv (C m) .len [32] [v63])) fun v64=>
 Qk (gdO (Qc v60 true) (fun _=>.val v56)) fun v65=>
 Qk (gdO (Qc v60 true) (Q9 (C m) 113 v65 (I 0))) fun v66=>
 Qr (gdO (Qc v60 true) (ldO (C m) 32 v66)) fun v67=>
 Qr (gdO (Qc v60 true) (Qv (C m) .len [32] [v67])) fun v68=>
 Qk (gdO (Qc v60 true) (Qi (C m) .eql 3 v64 v68)) fun v69=>
 Qk (Qm v60 v69 (B false)) fun v70=>
 Qo (C m) [(none,v70)]))
theorem K29_9_eq:D29 m c c29_9 (Z29 m) nx = (a2 (K29_9 m c) 2 3):=by
  refine Tq (D29 m c (pS1 c29_9) (D29 m c (pS1 (pS1 (pS2 c29_9))) (fun e=>ifB (e 229) ((D29 m c (pS1 (pC1 (pS2 (pS1 (pS2 c29_9))))) (Z29 m) nx) e) ((D29 m c (pS1 (pS2 (pS2 c29_9))) (D29 m c (pS1 (pS2 (pS2 (pS2 c29_9)))) (Z29 m) nx) nx) e)) nx) nx) (by kernel_rfl) ?_
  kernel_rfl
noncomputable def K29_8 (m:Nat) (c:Qd) (t2 t3 t11 t12:AV):Kt:=
 dIn fun sv0=>
 Qr (Qv (C m) .len [27] [t11]) fun v1=>
 Qr (Qv (C m) .len [27] [t12]) fun v2=>
 Qk (Qi (C m) .neq 3 v1 v2) fun v3=>
 Qk (gdO (Qc v3 false) (fun _=>.val t11)) fun v4=>
 Qk (gdO (Qc v3 false) (Q9 (C m) 27 v4 (I 0))) fun v5=>
 Qr (gdO (Qc v3 false) (ldO (C m) 25 v5)) fun v6=>
 Qr (gdO (Qc v3 false) (Qv (C m) .len [25] [v6])) fun v7=>
 Qk (gdO (Qc v3 false) (fun _=>.val t12)) fun v8=>
 Qk (gdO (Qc v3 false) (Q9 (C m) 27 v8 (I 0))) fun v9=>
 Qr (gdO (Qc v3 false) (ldO (C m) 25 v9)) fun v10=>
 Qr (gdO (Qc v3 false) (Qv (C m) .len [25] [v10])) fun v11=>
 Qk (gdO (Qc v3 false) (Qi (C m) .neq 3 v7 v11)) fun v12=>
 Qk (Qm v3 (B true) v12) fun v13=>
 ifB v13
 ((Qo (C m) [(none,(B false))]))
 ((K29_9 m c t2 t3))
theorem K29_8_eq:D29 m c c29_8 (Z29 m) nx = (a4 (K29_8 m c) 2 3 11 12):=by
  refine Tq (D29 m c (pS1 (pS1 c29_8)) (fun e=>ifB (e 193) ((D29 m c (pS1 (pC1 (pS2 (pS1 c29_8)))) (Z29 m) nx) e) ((D29 m c c29_9 (Z29 m) nx) e)) nx) (by kernel_rfl) ?_
  rw [K29_9_eq m c ]
  kernel_rfl
noncomputable def K29_7 (m:Nat) (c:Qd) (t2 t3 t9 t10:AV):Kt:=
 dIn fun sv0=>
 Qk (Qh (C m) 40 t9 2) fun v1=>
 Qr (ldO (C m) 38 v1) fun v2=>
 Qk (Q9 (C m) 38 v2 (I 0)) fun v3=>
 Qk (Qh (C m) 103 v3 0) fun v4=>
 Qk (Qh (C m) 100 v4 1) fun v5=>
 Qr (ldO (C m) 27 v5) fun v6=>
 Qk (Qh (C m) 40 t10 2) fun v7=>
 Qr (ldO (C m) 38 v7) fun v8=>
 Qk (Q9 (C m) 38 v8 (I 0)) fun v9=>
 Qk (Qh (C m) 103 v9 0) fun v10=>
 Qk (Qh (C m) 100 v10 1) fun v11=>
 Qr (ldO (C m) 27 v11) fun v12=>
 K29_8 m c t2 t3 v6 v12
theorem K29_7_eq:D29 m c c29_7 (Z29 m) nx = (a4 (K29_7 m c) 2 3 9 10):=by
  refine Tq (D29 m c (pS1 c29_7) (D29 m c c29_8 (Z29 m) nx) nx) (by kernel_rfl) ?_
  rw [K29_8_eq m c ]
  kernel_rfl
noncomputable def K29_6 (m:Nat) (c:Qd) (t2 t3 t9 t10:AV):Kt:=
 bnd (ldO (C m) 40 t10) fun v0=>
 bnd (Qy (C m) c (fnV 71) [v0]) fun v1=>
 bnd (unO .not v1) fun v2=>
 bnd (gdO (Qc v2 false) (Qh (C m) 40 t9 0)) fun v3=>
 bnd (gdO (Qc v2 false) (ldO (C m) 22 v3)) fun v4=>
 bnd (gdO (Qc v2 false) (Qh (C m) 40 t10 0)) fun v5=>
 bnd (gdO (Qc v2 false) (ldO (C m) 22 v5)) fun v6=>
 bnd (gdO (Qc v2 false) (Qi (C m) .neq 22 v4 v6)) fun v7=>
 bnd (Qm v2 (B true) v7) fun v8=>
 bnd (gdO (Qc v8 false) (Qh (C m) 40 t9 1)) fun v9=>
 bnd (gdO (Qc v8 false) (ldO (C m) 3 v9)) fun v10=>
 bnd (gdO (Qc v8 false) (Qh (C m) 40 t10 1)) fun v11=>
 bnd (gdO (Qc v8 false) (ldO (C m) 3 v11)) fun v12=>
 bnd (gdO (Qc v8 false) (Qi (C m) .neq 3 v10 v12)) fun v13=>
 bnd (Qm v8 (B true) v13) fun v14=>
 bnd (gdO (Qc v14 false) (Qh (C m) 40 t9 2)) fun v15=>
 bnd (gdO (Qc v14 false) (ldO (C m) 38 v15)) fun v16=>
 bnd (gdO (Qc v14 false) (Qv (C m) .len [38] [v16])) fun v17=>
 bnd (gdO (Qc v14 false) (Qh (C m) 40 t10 2)) fun v18=>
 bnd (gdO (Qc v14 false) (ldO (C m) 38 v18)) fun v19=>
 bnd (gdO (Qc v14 false) (Qv (C m) .len [38] [v19])) fun v20=>
 bnd (gdO (Qc v14 false) (Qi (C m) .neq 3 v17 v20)) fun v21=>
 bnd (Qm v14 (B true) v21) fun v22=>
 ifB v22
 ((Qo (C m) [(none,(B false))]))
 ((K29_7 m c t2 t3 t9 t10))
theorem K29_6_eq:D29 m c c29_6 (Z29 m) nx = (a4 (K29_6 m c) 2 3 9 10):=by
  refine Tq (D29 m c (pS1 (pS1 c29_6)) (fun e=>ifB (e 165) ((D29 m c (pS1 (pC1 (pS2 (pS1 c29_6)))) (Z29 m) nx) e) ((D29 m c c29_7 (Z29 m) nx) e)) nx) (by kernel_rfl) ?_
  rw [K29_7_eq m c ]
  kernel_rfl
noncomputable def K29_5 (m:Nat) (c:Qd) (t2 t3:AV):Kt:=
 atN 8 fun v0=>
 dIn fun sv0=>
 Qk (Qh (C m) 45 t2 6) fun v1=>
 Qr (ldO (C m) 40 v1) fun v2=>
 Vw (Xe (C m) 40) (Nat.add v0 4) fun v3=>
 Vw (Xe (C m) 40) (Nat.add v0 5) fun v4=>
 Xn (stO (C m) 40 v3 v2) fun v5 sv5=>
 Qk (Qh (C m) 45 t3 6) fun v6=>
 Ze (some true) (ldO (C m) 40 v6) (fun v7=>(Xk (ldO (C m) 40 v6) v7 sv5 && (Xk (ldO (C m) 40 v6) v7 sv0 && true))) fun v8=>
 Xn (stO (C m) 40 v4 v8) fun v9 sv9=>
 K29_6 m c t2 t3 v3 v4
theorem K29_5_eq:D29 m c c29_5 (Z29 m) nx = (a2 (K29_5 m c) 2 3):=by
  refine Tq (D29 m c (pS1 c29_5) (D29 m c c29_6 (Z29 m) nx) nx) (by kernel_rfl) ?_
  rw [K29_6_eq m c ]
  kernel_rfl
noncomputable def K29_4 (m:Nat) (c:Qd) (t2 t3 t7 t8:AV):Kt:=
 dIn fun sv0=>
 Qr (ldO (C m) 37 t8) fun v1=>
 Xn (Qy (C m) c (fnV 70) [v1]) fun v2 sv2=>
 Qk (unO .not v2) fun v3=>
 Qk (gdO (Qc v3 false) (Qh (C m) 37 t7 0)) fun v4=>
 Qr (gdO (Qc v3 false) (ldO (C m) 22 v4)) fun v5=>
 Qk (gdO (Qc v3 false) (Qh (C m) 37 t8 0)) fun v6=>
 Qr (gdO (Qc v3 false) (ldO (C m) 22 v6)) fun v7=>
 Qk (gdO (Qc v3 false) (Qi (C m) .neq 22 v5 v7)) fun v8=>
 Qk (Qm v3 (B true) v8) fun v9=>
 Qk (gdO (Qc v9 false) (Qh (C m) 37 t7 2)) fun v10=>
 Qr (gdO (Qc v9 false) (ldO (C m) 35 v10)) fun v11=>
 Qr (gdO (Qc v9 false) (Qv (C m) .len [35] [v11])) fun v12=>
 Qk (gdO (Qc v9 false) (Qh (C m) 37 t8 2)) fun v13=>
 Qr (gdO (Qc v9 false) (ldO (C m) 35 v13)) fun v14=>
 Qr (gdO (Qc v9 false) (Qv (C m) .len [35] [v14])) fun v15=>
 Qk (gdO (Qc v9 false) (Qi (C m) .neq 3 v12 v15)) fun v16=>
 Qk (Qm v9 (B true) v16) fun v17=>
 Qk (gdO (Qc v17 false) (Qh (C m) 37 t7 2)) fun v18=>
 Qr (gdO (Qc v17 false) (ldO (C m) 35 v18)) fun v19=>
 Qk (gdO (Qc v17 false) (Q9 (C m) 35 v19 (I 0))) fun v20=>
 Qr (gdO (Qc v17 false) (ldO (C m) 94 v20)) fun v21=>
 Qr (gdO (Qc v17 false) (Qv (C m) .len [94] [v21])) fun v22=>
 Qk (gdO (Qc v17 false) (Qh (C m) 37 t8 2)) fun v23=>
 Qr (gdO (Qc v17 false) (ldO (C m) 35 v23)) fun v24=>
 Qk (gdO (Qc v17 false) (Q9 (C m) 35 v24 (I 0))) fun v25=>
 Qr (gdO (Qc v17 false) (ldO (C m) 94 v25)) fun v26=>
 Qr (gdO (Qc v17 false) (Qv (C m) .len [94] [v26])) fun v27=>
 Qk (gdO (Qc v17 false) (Qi (C m) .neq 3 v22 v27)) fun v28=>
 Qk (Qm v17 (B true) v28) fun v29=>
 Qk (gdO (Qc v29 false) (Qh (C m) 37 t7 1)) fun v30=>
 Qk (gdO (Qc v29 false) (Qh (C m) 34 v30 2)) fun v31=>
 Qr (gdO (Qc v29 false) (ldO (C m) 32 v31)) fun v32=>
 Qr (gdO (Qc v29 false) (Qv (C m) .len [32] [v32])) fun v33=>
 Qk (gdO (Qc v29 false) (Qh (C m) 37 t8 1)) fun v34=>
 Qk (gdO (Qc v29 false) (Qh (C m) 34 v34 2)) fun v35=>
 Qr (gdO (Qc v29 false) (ldO (C m) 32 v35)) fun v36=>
 Qr (gdO (Qc v29 false) (Qv (C m) .len [32] [v36])) fun v37=>
 Qk (gdO (Qc v29 false) (Qi (C m) .neq 3 v33 v37)) fun v38=>
 Qk (Qm v29 (B true) v38) fun v39=>
 Qk (gdO (Qc v39 false) (Qh (C m) 37 t7 1)) fun v40=>
 Qk (gdO (Qc v39 false) (Qh (C m) 34 v40 1)) fun v41=>
 Qr (gdO (Qc v39 false) (ldO (C m) 3 v41)) fun v42=>
 Qk (gdO (Qc v39 false) (Qh (C m) 37 t8 1)) fun v43=>
 Qk (gdO (Qc v39 false) (Qh (C m) 34 v43 1)) fun v44=>
 Qr (gdO (Qc v39 false) (ldO (C m) 3 v44)) fun v45=>
 Qk (gdO (Qc v39 false) (Qi (C m) .neq 3 v42 v45)) fun v46=>
 Qk (Qm v39 (B true) v46) fun v47=>
 ifB v47
 ((Qo (C m) [(none,(B false))]))
 ((K29_5 m c t2 t3))
theorem K29_4_eq:D29 m c c29_4 (Z29 m) nx = (a4 (K29_4 m c) 2 3 7 8):=by
  refine Tq (D29 m c (pS1 (pS1 c29_4)) (fun e=>ifB (e 135) ((D29 m c (pS1 (pC1 (pS2 (pS1 c29_4)))) (Z29 m) nx) e) ((D29 m c c29_5 (Z29 m) nx) e)) nx) (by kernel_rfl) ?_
  rw [K29_5_eq m c ]
  kernel_rfl
noncomputable def K29_3 (m:Nat) (c:Qd) (t2 t3:AV):Kt:=
 atN 8 fun v0=>
 dIn fun sv0=>
 Qk (Qh (C m) 45 t2 5) fun v1=>
 Qr (ldO (C m) 37 v1) fun v2=>
 Vw (Xe (C m) 37) (Nat.add v0 4) fun v3=>
 Vw (Xe (C m) 37) (Nat.add v0 5) fun v4=>
 Xn (stO (C m) 37 v3 v2) fun v5 sv5=>
 Qk (Qh (C m) 45 t3 5) fun v6=>
 Ze (some true) (ldO (C m) 37 v6) (fun v7=>(Xk (ldO (C m) 37 v6) v7 sv5 && (Xk (ldO (C m) 37 v6) v7 sv0 && true))) fun v8=>
 Xn (stO (C m) 37 v4 v8) fun v9 sv9=>
 K29_4 m c t2 t3 v3 v4
theorem K29_3_eq:D29 m c c29_3 (Z29 m) nx = (a2 (K29_3 m c) 2 3):=by
  refine Tq (D29 m c (pS1 c29_3) (D29 m c c29_4 (Z29 m) nx) nx) (by kernel_rfl) ?_
  rw [K29_4_eq m c ]
  kernel_rfl
noncomputable def K29_2 (m:Nat) (c:Qd) (t2 t3 t5 t6:AV):Kt:=
 dIn fun sv0=>
 Qr (ldO (C m) 31 t6) fun v1=>
 Xn (Qy (C m) c (fnV 69) [v1]) fun v2 sv2=>
 Qk (unO .not v2) fun v3=>
 Qk (gdO (Qc v3 false) (Qh (C m) 31 t5 0)) fun v4=>
 Qr (gdO (Qc v3 false) (ldO (C m) 22 v4)) fun v5=>
 Qk (gdO (Qc v3 false) (Qh (C m) 31 t6 0)) fun v6=>
 Qr (gdO (Qc v3 false) (ldO (C m) 22 v6)) fun v7=>
 Qk (gdO (Qc v3 false) (Qi (C m) .neq 22 v5 v7)) fun v8=>
 Qk (Qm v3 (B true) v8) fun v9=>
 Qk (gdO (Qc v9 false) (Qh (C m) 31 t5 1)) fun v10=>
 Qr (gdO (Qc v9 false) (ldO (C m) 3 v10)) fun v11=>
 Qk (gdO (Qc v9 false) (Qh (C m) 31 t6 1)) fun v12=>
 Qr (gdO (Qc v9 false) (ldO (C m) 3 v12)) fun v13=>
 Qk (gdO (Qc v9 false) (Qi (C m) .neq 3 v11 v13)) fun v14=>
 Qk (Qm v9 (B true) v14) fun v15=>
 Qk (gdO (Qc v15 false) (Qh (C m) 31 t5 2)) fun v16=>
 Qr (gdO (Qc v15 false) (ldO (C m) 3 v16)) fun v17=>
 Qk (gdO (Qc v15 false) (Qh (C m) 31 t6 2)) fun v18=>
 Qr (gdO (Qc v15 false) (ldO (C m) 3 v18)) fun v19=>
 Qk (gdO (Qc v15 false) (Qi (C m) .neq 3 v17 v19)) fun v20=>
 Qk (Qm v15 (B true) v20) fun v21=>
 Qk (gdO (Qc v21 false) (Qh (C m) 31 t5 3)) fun v22=>
 Qr (gdO (Qc v21 false) (ldO (C m) 26 v22)) fun v23=>
 Qr (gdO (Qc v21 false) (Qv (C m) .len [26] [v23])) fun v24=>
 Qk (gdO (Qc v21 false) (Qh (C m) 31 t6 3)) fun v25=>
 Qr (gdO (Qc v21 false) (ldO (C m) 26 v25)) fun v26=>
 Qr (gdO (Qc v21 false) (Qv (C m) .len [26] [v26])) fun v27=>
 Qk (gdO (Qc v21 false) (Qi (C m) .neq 3 v24 v27)) fun v28=>
 Qk (Qm v21 (B true) v28) fun v29=>
 Qk (gdO (Qc v29 false) (Qh (C m) 31 t5 4)) fun v30=>
 Qk (gdO (Qc v29 false) (Qh (C m) 29 v30 2)) fun v31=>
 Qr (gdO (Qc v29 false) (ldO (C m) 27 v31)) fun v32=>
 Qr (gdO (Qc v29 false) (Qv (C m) .len [27] [v32])) fun v33=>
 Qk (gdO (Qc v29 false) (Qh (C m) 31 t6 4)) fun v34=>
 Qk (gdO (Qc v29 false) (Qh (C m) 29 v34 2)) fun v35=>
 Qr (gdO (Qc v29 false) (ldO (C m) 27 v35)) fun v36=>
 Qr (gdO (Qc v29 false) (Qv (C m) .len [27] [v36])) fun v37=>
 Qk (gdO (Qc v29 false) (Qi (C m) .neq 3 v33 v37)) fun v38=>
 Qk (Qm v29 (B true) v38) fun v39=>
 Qk (gdO (Qc v39 false) (Qh (C m) 31 t5 4)) fun v40=>
 Qk (gdO (Qc v39 false) (Qh (C m) 29 v40 2)) fun v41=>
 Qr (gdO (Qc v39 false) (ldO (C m) 27 v41)) fun v42=>
 Qk (gdO (Qc v39 false) (Q9 (C m) 27 v42 (I 0))) fun v43=>
 Qr (gdO (Qc v39 false) (ldO (C m) 25 v43)) fun v44=>
 Qr (gdO (Qc v39 false) (Qv (C m) .len [25] [v44])) fun v45=>
 Qk (gdO (Qc v39 false) (Qh (C m) 31 t6 4)) fun v46=>
 Qk (gdO (Qc v39 false) (Qh (C m) 29 v46 2)) fun v47=>
 Qr (gdO (Qc v39 false) (ldO (C m) 27 v47)) fun v48=>
 Qk (gdO (Qc v39 false) (Q9 (C m) 27 v48 (I 0))) fun v49=>
 Qr (gdO (Qc v39 false) (ldO (C m) 25 v49)) fun v50=>
 Qr (gdO (Qc v39 false) (Qv (C m) .len [25] [v50])) fun v51=>
 Qk (gdO (Qc v39 false) (Qi (C m) .neq 3 v45 v51)) fun v52=>
 Qk (Qm v39 (B true) v52) fun v53=>
 ifB v53
 ((Qo (C m) [(none,(B false))]))
 ((K29_3 m c t2 t3))
theorem K29_2_eq:D29 m c c29_2 (Z29 m) nx = (a4 (K29_2 m c) 2 3 5 6):=by
  refine Tq (D29 m c (pS1 (pS1 c29_2)) (fun e=>ifB (e 79) ((D29 m c (pS1 (pC1 (pS2 (pS1 c29_2)))) (Z29 m) nx) e) ((D29 m c c29_3 (Z29 m) nx) e)) nx) (by kernel_rfl) ?_
  rw [K29_3_eq m c ]
  kernel_rfl
noncomputable def K29_1 (m:Nat) (c:Qd) (t2 t3:AV):Kt:=
 atN 8 fun v0=>
 dIn fun sv0=>
 Qk (Qh (C m) 45 t2 4) fun v1=>
 Qr (ldO (C m) 31 v1) fun v2=>
 Vw (Xe (C m) 31) (Nat.add v0 4) fun v3=>
 Vw (Xe (C m) 31) (Nat.add v0 5) fun v4=>
 Xn (stO (C m) 31 v3 v2) fun v5 sv5=>
 Qk (Qh (C m) 45 t3 4) fun v6=>
 Ze (some true) (ldO (C m) 31 v6) (fun v7=>(Xk (ldO (C m) 31 v6) v7 sv5 && (Xk (ldO (C m) 31 v6) v7 sv0 && true))) fun v8=>
 Xn (stO (C m) 31 v4 v8) fun v9 sv9=>
 K29_2 m c t2 t3 v3 v4
theorem K29_1_eq:D29 m c c29_1 (Z29 m) nx = (a2 (K29_1 m c) 2 3):=by
  refine Tq (D29 m c (pS1 c29_1) (D29 m c c29_2 (Z29 m) nx) nx) (by kernel_rfl) ?_
  rw [K29_2_eq m c ]
  kernel_rfl
noncomputable def K29_0 (m:Nat) (c:Qd) (t0 t1:AV):Kt:=
 bnd (Z2 45 t0) fun v0=>
 bnd (Z2 45 t1) fun v1=>
 K29_1 m c v0 v1
theorem K29_0_eq:D29 m c c29_0 (Z29 m) nx = (a2 (K29_0 m c) 0 1):=by
  refine Tq (D29 m c (pS1 c29_0) (D29 m c c29_1 (Z29 m) nx) nx) (by kernel_rfl) ?_
  rw [K29_1_eq m c ]
  kernel_rfl
theorem F29_eq (t0 t1:AV):Qu (C m) c Tryz.f29 [t0,t1] = K29_0 m c t0 t1:=by
  refine Tq ((D29 m c c29_0 (Z29 m) nx) (Xl [t0,t1])) (by kernel_rfl) ?_
  rw [K29_0_eq m c]
  rfl
noncomputable def c69_0:Code:=(Qw Tryz.f69)
noncomputable def Z69 (m:Nat):=fun (e:Nat→AV)=>Qo (C m) (Xh e Tryz.f69.results.toList)
noncomputable def D69 (m:Nat) (c:Qd) (p:Code) (k:TE→Kt) (x:Nat→TE→Kt):=Q2 p (C m) c k x (Z69 m)
noncomputable def K69_0 (m:Nat) (c:Qd) (t0:AV):Kt:=
 bnd (Z2 31 t0) fun v0=>
 dIn fun sv1=>
 Qk (Qh (C m) 31 v0 1) fun v2=>
 Qr (ldO (C m) 3 v2) fun v3=>
 Qk (Qi (C m) .geq 3 v3 (I 1)) fun v4=>
 Qk (gdO (Qc v4 true) (Qh (C m) 31 v0 1)) fun v5=>
 Qr (gdO (Qc v4 true) (ldO (C m) 3 v5)) fun v6=>
 Qk (gdO (Qc v4 true) (Qi (C m) .leq 3 v6 (I 8))) fun v7=>
 Qk (Qm v4 v7 (B false)) fun v8=>
 Qk (gdO (Qc v8 true) (Qh (C m) 31 v0 2)) fun v9=>
 Qr (gdO (Qc v8 true) (ldO (C m) 3 v9)) fun v10=>
 Qk (gdO (Qc v8 true) (Qi (C m) .geq 3 v10 (I 1))) fun v11=>
 Qk (Qm v8 v11 (B false)) fun v12=>
 Qk (gdO (Qc v12 true) (Qh (C m) 31 v0 2)) fun v13=>
 Qr (gdO (Qc v12 true) (ldO (C m) 3 v13)) fun v14=>
 Qk (gdO (Qc v12 true) (Qi (C m) .leq 3 v14 (I 64))) fun v15=>
 Qk (Qm v12 v15 (B false)) fun v16=>
 Qk (gdO (Qc v16 true) (Qh (C m) 31 v0 3)) fun v17=>
 Qr (gdO (Qc v16 true) (ldO (C m) 26 v17)) fun v18=>
 Qr (gdO (Qc v16 true) (Qv (C m) .len [26] [v18])) fun v19=>
 Qk (gdO (Qc v16 true) (Qi (C m) .geq 3 v19 (I 1))) fun v20=>
 Qk (Qm v16 v20 (B false)) fun v21=>
 Qk (gdO (Qc v21 true) (Qh (C m) 31 v0 3)) fun v22=>
 Qr (gdO (Qc v21 true) (ldO (C m) 26 v22)) fun v23=>
 Qr (gdO (Qc v21 true) (Qv (C m) .len [26] [v23])) fun v24=>
 Qk (gdO (Qc v21 true) (Qi (C m) .leq 3 v24 (I 256))) fun v25=>
 Qk (Qm v21 v25 (B false)) fun v26=>
 Qk (gdO (Qc v26 true) (Qh (C m) 31 v0 4)) fun v27=>
 Qr (gdO (Qc v26 true) (ldO (C m) 29 v27)) fun v28=>
 Xn (gdO (Qc v26 true) (Qy (C m) c (fnV 123) [v28])) fun v29 sv29=>
 Qk (Qm v26 v29 (B false)) fun v30=>
 Qk (gdO (Qc v30 true) (Qh (C m) 31 v0 0)) fun v31=>
 Qr (gdO (Qc v30 true) (ldO (C m) 22 v31)) fun v32=>
 Xn (gdO (Qc v30 true) (Qy (C m) c (fnV 12) [v32,(I 1)])) fun v33 sv33=>
 Qk (gdO (Qc v30 true) (Qh (C m) 31 v0 4)) fun v34=>
 Qk (gdO (Qc v30 true) (Qh (C m) 29 v34 0)) fun v35=>
 Ze ((Qc v30 true)) (ldO (C m) 22 v35) (fun v36=>(Xk (ldO (C m) 22 v35) v36 sv33 && (Xk (ldO (C m) 22 v35) v36 sv29 && true))) fun v37=>
 Qk (gdO (Qc v30 true) (Qi (C m) .eql 22 v37 v33)) fun v38=>
 Qk (Qm v30 v38 (B false)) fun v39=>
 Qk (gdO (Qc v39 true) (Qh (C m) 31 v0 4)) fun v40=>
 Qk (gdO (Qc v39 true) (Qh (C m) 29 v40 1)) fun v41=>
 Qr (gdO (Qc v39 true) (ldO (C m) 3 v41)) fun v42=>
 Qk (gdO (Qc v39 true) (Qi (C m) .eql 3 v42 (I 255))) fun v43=>
 Qk (Qm v39 v43 (B false)) fun v44=>
 Qk (gdO (Qc v44 true) (Qh (C m) 31 v0 3)) fun v45=>
 Qr (gdO (Qc v44 true) (ldO (C m) 26 v45)) fun v46=>
 Qk (gdO (Qc v44 true) (funO (.func 125) true [v0])) fun v47=>
 Xn (gdO (Qc v44 true) (Qy (C m) c (fnV 124) [v46,v47])) fun v48 sv48=>
 Qk (gdO (Qc v44 true) (unO .not v48)) fun v49=>
 Qk (Qm v44 v49 (B false)) fun v50=>
 Qo (C m) [(none,v50)]
theorem K69_0_eq:D69 m c c69_0 (Z69 m) nx = (a1 (K69_0 m c) 0):=by
  refine Tq (D69 m c (pS1 c69_0) (D69 m c (pS1 (pS2 c69_0)) (Z69 m) nx) nx) (by kernel_rfl) ?_
  kernel_rfl
theorem F69_eq (t0:AV):Qu (C m) c Tryz.f69 [t0] = K69_0 m c t0:=by
  refine Tq ((D69 m c c69_0 (Z69 m) nx) (Xl [t0])) (by kernel_rfl) ?_
  rw [K69_0_eq m c]
  rfl
noncomputable def c123_0:Code:=(Qw Tryz.f123)
noncomputable def c123_1:Code:=(pS2 c123_0)
noncomputable def c123_2:Code:=(pS2 c123_1)
noncomputable def c123_3:Code:=(pS2 c123_2)
noncomputable def c123_4:Code:=(pS2 (pS1 c123_2))
noncomputable def c123_5:Code:=(pL (pB c123_4))
noncomputable def c123_6:Code:=(pS2 c123_5)
noncomputable def c123_7:Code:=(pS2 c123_6)
noncomputable def c123_8:Code:=(pS2 c123_7)
noncomputable def Z123 (m:Nat):=fun (e:Nat→AV)=>Qo (C m) (Xh e Tryz.f123.results.toList)
noncomputable def Wx (m:Nat) (c:Qd) (p:Code) (k:TE→Kt) (x:Nat→TE→Kt):=Q2 p (C m) c k x (Z123 m)
noncomputable def Zo (m:Nat) (c:Qd):Kt:=
 Qo (C m) [(none,(B true))]
theorem K123_3_eq:Wx m c c123_3 (Z123 m) nx = (a0 (Zo m c)):=by
  refine Tq (Wx m c (pS1 c123_3) (Z123 m) nx) (by kernel_rfl) ?_
  kernel_rfl
noncomputable def K123_8 (m:Nat) (c:Qd) (h5:AV→AV→AV→AV→Kt) (t1 t26 t27 t28:AV):Kt:=
 bnd (Qi (C m) .add 3 t28 (I 1)) fun v0=>
 h5 t1 t26 t27 v0
theorem K123_8_eq (h5:AV→AV→AV→AV→Kt):Wx m c c123_8 (a4 h5 1 26 27 28) (Qa 0 (a0 (Zo m c)) nx) = (a4 (K123_8 m c h5) 1 26 27 28):=by
  kernel_rfl
noncomputable def K123_7 (m:Nat) (c:Qd) (h5:AV→AV→AV→AV→Kt) (t1 t26 t27 t28:AV):Kt:=
 bnd (Q9 (C m) 27 t26 t28) fun v0=>
 bnd (ldO (C m) 25 v0) fun v1=>
 dIn fun sv2=>
 Qr (Qv (C m) .len [25] [v1]) fun v3=>
 Qk (Qi (C m) .lss 3 v3 (I 1)) fun v4=>
 Qk (gdO (Qc v4 false) (fun _=>.val v1)) fun v5=>
 Qr (gdO (Qc v4 false) (Qv (C m) .len [25] [v5])) fun v6=>
 Qk (gdO (Qc v4 false) (Qi (C m) .gtr 3 v6 (I 256))) fun v7=>
 Qk (Qm v4 (B true) v7) fun v8=>
 Qk (gdO (Qc v8 false) (fun _=>.val v1)) fun v9=>
 Qr (gdO (Qc v8 false) (Qv (C m) .len [25] [v9])) fun v10=>
 Qk (gdO (Qc v8 false) (Qh (C m) 29 t1 2)) fun v11=>
 Qr (gdO (Qc v8 false) (ldO (C m) 27 v11)) fun v12=>
 Qk (gdO (Qc v8 false) (Q9 (C m) 27 v12 (I 0))) fun v13=>
 Qr (gdO (Qc v8 false) (ldO (C m) 25 v13)) fun v14=>
 Qr (gdO (Qc v8 false) (Qv (C m) .len [25] [v14])) fun v15=>
 Qk (gdO (Qc v8 false) (Qi (C m) .neq 3 v10 v15)) fun v16=>
 Qk (Qm v8 (B true) v16) fun v17=>
 Qk (gdO (Qc v17 false) (fun _=>.val v1)) fun v18=>
 Xn (gdO (Qc v17 false) (Qy (C m) c (fnV 166) [v18])) fun v19 sv19=>
 Qk (gdO (Qc v17 false) (Qi (C m) .lss 3 v19 (I 0))) fun v20=>
 Qk (Qm v17 (B true) v20) fun v21=>
 Qk (gdO (Qc v21 false) (fun _=>.val v1)) fun v22=>
 Xn (gdO (Qc v21 false) (Qy (C m) c (fnV 167) [v22])) fun v23 sv23=>
 Qk (gdO (Qc v21 false) (Qh (C m) 29 t1 1)) fun v24=>
 Ze ((Qc v21 false)) (ldO (C m) 3 v24) (fun v25=>(Xk (ldO (C m) 3 v24) v25 sv23 && (Xk (ldO (C m) 3 v24) v25 sv19 && true))) fun v26=>
 Qk (gdO (Qc v21 false) (Qi (C m) .gtr 3 v23 v26)) fun v27=>
 Qk (Qm v21 (B true) v27) fun v28=>
 ifB v28
 ((Qo (C m) [(none,(B false))]))
 ((K123_8 m c h5 t1 t26 t27 t28))
theorem K123_7_eq (h5:AV→AV→AV→AV→Kt):Wx m c c123_7 (a4 h5 1 26 27 28) (Qa 0 (a0 (Zo m c)) nx) = (a4 (K123_7 m c h5) 1 26 27 28):=by
  refine Tq (Wx m c (pS1 (pB (pS1 c123_7))) (Wx m c (pS1 (pS2 (pB (pS1 c123_7)))) (fun e=>ifB (e 61) ((Wx m c (pS1 (pC1 (pS2 (pS2 (pB (pS1 c123_7)))))) (Z123 m) (Qa 1 (Wx m c c123_8 (a4 h5 1 26 27 28) (Qa 0 (a0 (Zo m c)) nx)) (Qa 0 (a0 (Zo m c)) nx))) e) ((Wx m c c123_8 (a4 h5 1 26 27 28) (Qa 0 (a0 (Zo m c)) nx)) e)) (Qa 1 (Wx m c c123_8 (a4 h5 1 26 27 28) (Qa 0 (a0 (Zo m c)) nx)) (Qa 0 (a0 (Zo m c)) nx))) (Qa 1 (Wx m c c123_8 (a4 h5 1 26 27 28) (Qa 0 (a0 (Zo m c)) nx)) (Qa 0 (a0 (Zo m c)) nx))) (by kernel_rfl) ?_
  rw [K123_8_eq m c h5 ]
  kernel_rfl
noncomputable def K123_6 (m:Nat) (c:Qd) (h5:AV→AV→AV→AV→Kt) (t1 t26 t27 t28 t29:AV):Kt:=
 ifB t29
 ((K123_7 m c h5 t1 t26 t27 t28))
 ((Zo m c))
theorem K123_6_eq (h5:AV→AV→AV→AV→Kt):Wx m c c123_6 (a4 h5 1 26 27 28) (Qa 0 (a0 (Zo m c)) nx) = (a5 (K123_6 m c h5) 1 26 27 28 29):=by
  refine Tq (fun e=>ifB (e 29) ((Wx m c c123_7 (a4 h5 1 26 27 28) (Qa 0 (a0 (Zo m c)) nx)) e) ((a0 (Zo m c)) e)) (by kernel_rfl) ?_
  rw [K123_7_eq m c h5 ]
  kernel_rfl
noncomputable def L123_5_b (m:Nat) (c:Qd) (h5:AV→AV→AV→AV→Kt) (t1 t26 t27 t28:AV):Kt:=
 bnd (Qi (C m) .lss 3 t28 t27) fun v0=>
 K123_6 m c h5 t1 t26 t27 t28 v0
noncomputable def L123_5 (m:Nat) (c:Qd) (n:Nat):AV→AV→AV→AV→Kt:=
 Nat.rec (motive:=fun _=>AV→AV→AV→AV→Kt) (fun t1 t26 t27 t28=>noK) (fun _ ih=>L123_5_b m c ih) n
theorem L123_5_b_eq (h5:AV→AV→AV→AV→Kt):Wx m c c123_5 (a4 h5 1 26 27 28) (Qa 0 (a0 (Zo m c)) nx) = fun e=>L123_5_b m c h5 (e 1) (e 26) (e 27) (e 28):=by
  refine Tq (Wx m c (pS1 c123_5) (Wx m c c123_6 (a4 h5 1 26 27 28) (Qa 0 (a0 (Zo m c)) nx)) (Qa 0 (a0 (Zo m c)) nx)) (by kernel_rfl) ?_
  rw [K123_6_eq m c h5 ]
  kernel_rfl
theorem L123_5_eq (n:Nat):(Qn (fun k=>Wx m c c123_5 k (Qa 0 (a0 (Zo m c)) nx)) n) = (a4 (L123_5 m c n) 1 26 27 28):=by
  induction n with
  | zero=>rfl
  | succ n ih=>
    show Wx m c c123_5 (Qn (fun k=>Wx m c c123_5 k (Qa 0 (a0 (Zo m c)) nx)) n) (Qa 0 (a0 (Zo m c)) nx) = _
    rw [ih,L123_5_b_eq m c (L123_5 m c n)]
    rfl
theorem L123_5_succ (n:Nat):L123_5 m c (n + 1) = L123_5_b m c (L123_5 m c n):=rfl
noncomputable def K123_4 (m:Nat) (c:Qd) (t1 t26 t27 t28:AV):Kt:=
 L123_5 m c m t1 t26 t27 t28
theorem K123_4_eq:Wx m c c123_4 (a0 (Zo m c)) nx = (a4 (K123_4 m c) 1 26 27 28):=by
  refine Tq (Qn (fun k=>Wx m c c123_5 k (Qa 0 (a0 (Zo m c)) nx)) m) (by kernel_rfl) ?_
  rw [L123_5_eq m c m]
  kernel_rfl
noncomputable def K123_2 (m:Nat) (c:Qd) (t1:AV):Kt:=
 bnd (Qh (C m) 29 t1 2) fun v0=>
 bnd (ldO (C m) 27 v0) fun v1=>
 bnd (Qv (C m) .len [27] [v1]) fun v2=>
 K123_4 m c t1 v1 v2 (I 0)
theorem K123_2_eq:Wx m c c123_2 (Z123 m) nx = (a1 (K123_2 m c) 1):=by
  refine Tq (Wx m c (pS1 (pS1 c123_2)) (Wx m c c123_4 (Wx m c c123_3 (Z123 m) nx) nx) nx) (by kernel_rfl) ?_
  rw [K123_3_eq m c ,K123_4_eq m c ]
  kernel_rfl
noncomputable def K123_1 (m:Nat) (c:Qd) (t1:AV):Kt:=
 bnd (Qh (C m) 29 t1 1) fun v0=>
 bnd (ldO (C m) 3 v0) fun v1=>
 bnd (Qi (C m) .lss 3 v1 (I 1)) fun v2=>
 bnd (gdO (Qc v2 false) (Qh (C m) 29 t1 1)) fun v3=>
 bnd (gdO (Qc v2 false) (ldO (C m) 3 v3)) fun v4=>
 bnd (gdO (Qc v2 false) (Qi (C m) .gtr 3 v4 (I 1099511627776))) fun v5=>
 bnd (Qm v2 (B true) v5) fun v6=>
 bnd (gdO (Qc v6 false) (Qh (C m) 29 t1 2)) fun v7=>
 bnd (gdO (Qc v6 false) (ldO (C m) 27 v7)) fun v8=>
 bnd (gdO (Qc v6 false) (Qv (C m) .len [27] [v8])) fun v9=>
 bnd (gdO (Qc v6 false) (Qi (C m) .lss 3 v9 (I 1))) fun v10=>
 bnd (Qm v6 (B true) v10) fun v11=>
 bnd (gdO (Qc v11 false) (Qh (C m) 29 t1 2)) fun v12=>
 bnd (gdO (Qc v11 false) (ldO (C m) 27 v12)) fun v13=>
 bnd (gdO (Qc v11 false) (Qv (C m) .len [27] [v13])) fun v14=>
 bnd (gdO (Qc v11 false) (Qi (C m) .gtr 3 v14 (I 7))) fun v15=>
 bnd (Qm v11 (B true) v15) fun v16=>
 ifB v16
 ((Qo (C m) [(none,(B false))]))
 ((K123_2 m c t1))
theorem K123_1_eq:Wx m c c123_1 (Z123 m) nx = (a1 (K123_1 m c) 1):=by
  refine Tq (Wx m c (pS1 (pS1 c123_1)) (fun e=>ifB (e 24) ((Wx m c (pS1 (pC1 (pS2 (pS1 c123_1)))) (Z123 m) nx) e) ((Wx m c c123_2 (Z123 m) nx) e)) nx) (by kernel_rfl) ?_
  rw [K123_2_eq m c ]
  kernel_rfl
noncomputable def K123_0 (m:Nat) (c:Qd) (t0:AV):Kt:=
 bnd (Z2 29 t0) fun v0=>
 K123_1 m c v0
theorem K123_0_eq:Wx m c c123_0 (Z123 m) nx = (a1 (K123_0 m c) 0):=by
  refine Tq (Wx m c (pS1 c123_0) (Wx m c c123_1 (Z123 m) nx) nx) (by kernel_rfl) ?_
  rw [K123_1_eq m c ]
  kernel_rfl
theorem F123_eq (t0:AV):Qu (C m) c Tryz.f123 [t0] = K123_0 m c t0:=by
  refine Tq ((Wx m c c123_0 (Z123 m) nx) (Xl [t0])) (by kernel_rfl) ?_
  rw [K123_0_eq m c]
  rfl
noncomputable def c166_0:Code:=(Qw Tryz.f166)
noncomputable def c166_1:Code:=(pS2 c166_0)
noncomputable def c166_2:Code:=(pS2 c166_1)
noncomputable def c166_3:Code:=(pS2 c166_2)
noncomputable def c166_4:Code:=(pS2 c166_3)
noncomputable def c166_5:Code:=(pS2 (pS1 c166_3))
noncomputable def c166_6:Code:=(pL (pB c166_5))
noncomputable def c166_7:Code:=(pS2 c166_6)
noncomputable def c166_8:Code:=(pS2 c166_7)
noncomputable def Z166 (m:Nat):=fun (e:Nat→AV)=>Qo (C m) (Xh e Tryz.f166.results.toList)
noncomputable def Jc (m:Nat) (c:Qd) (p:Code) (k:TE→Kt) (x:Nat→TE→Kt):=Q2 p (C m) c k x (Z166 m)
noncomputable def Wf (m:Nat) (c:Qd) (t3:AV):Kt:=
 Qo (C m) [(none,t3)]
theorem K166_4_eq:Jc m c c166_4 (Z166 m) nx = (a1 (Wf m c) 3):=by
  refine Tq (Jc m c (pS1 c166_4) (Z166 m) nx) (by kernel_rfl) ?_
  kernel_rfl
noncomputable def K166_8 (m:Nat) (c:Qd) (h6:AV→AV→AV→Kt) (t0 t3 t4:AV):Kt:=
 bnd (Qi (C m) .add 3 t4 (I 1)) fun v0=>
 h6 t0 t3 v0
theorem K166_8_eq (h6:AV→AV→AV→Kt):Jc m c c166_8 (a3 h6 0 3 4) (Qa 0 (a1 (Wf m c) 3) nx) = (a3 (K166_8 m c h6) 0 3 4):=by
  kernel_rfl
noncomputable def K166_7 (m:Nat) (c:Qd) (h6:AV→AV→AV→Kt) (t0 t3 t4:AV):Kt:=
 bnd (Q9 (C m) 25 t0 t4) fun v0=>
 bnd (ldO (C m) 3 v0) fun v1=>
 bnd (Qv (C m) .min [3,3] [t3,v1]) fun v2=>
 K166_8 m c h6 t0 v2 t4
theorem K166_7_eq (h6:AV→AV→AV→Kt):Jc m c c166_7 (a3 h6 0 3 4) (Qa 0 (a1 (Wf m c) 3) nx) = (a3 (K166_7 m c h6) 0 3 4):=by
  refine Tq (Jc m c (pB (pS1 c166_7)) (Jc m c c166_8 (a3 h6 0 3 4) (Qa 0 (a1 (Wf m c) 3) nx)) (Qa 1 (Jc m c c166_8 (a3 h6 0 3 4) (Qa 0 (a1 (Wf m c) 3) nx)) (Qa 0 (a1 (Wf m c) 3) nx))) (by kernel_rfl) ?_
  rw [K166_8_eq m c h6 ]
  kernel_rfl
noncomputable def L166_6_b (m:Nat) (c:Qd) (h6:AV→AV→AV→Kt) (t0 t3 t4:AV):Kt:=
 bnd (Qv (C m) .len [25] [t0]) fun v0=>
 bnd (Qi (C m) .lss 3 t4 v0) fun v1=>
 ifB v1
 ((K166_7 m c h6 t0 t3 t4))
 ((Wf m c t3))
noncomputable def L166_6 (m:Nat) (c:Qd) (n:Nat):AV→AV→AV→Kt:=
 Nat.rec (motive:=fun _=>AV→AV→AV→Kt) (fun t0 t3 t4=>noK) (fun _ ih=>L166_6_b m c ih) n
theorem L166_6_b_eq (h6:AV→AV→AV→Kt):Jc m c c166_6 (a3 h6 0 3 4) (Qa 0 (a1 (Wf m c) 3) nx) = fun e=>L166_6_b m c h6 (e 0) (e 3) (e 4):=by
  refine Tq (Jc m c (pS1 (pS1 c166_6)) (fun e=>ifB (e 15) ((Jc m c c166_7 (a3 h6 0 3 4) (Qa 0 (a1 (Wf m c) 3) nx)) e) ((a1 (Wf m c) 3) e)) (Qa 0 (a1 (Wf m c) 3) nx)) (by kernel_rfl) ?_
  rw [K166_7_eq m c h6 ]
  kernel_rfl
theorem L166_6_eq (n:Nat):(Qn (fun k=>Jc m c c166_6 k (Qa 0 (a1 (Wf m c) 3) nx)) n) = (a3 (L166_6 m c n) 0 3 4):=by
  induction n with
  | zero=>rfl
  | succ n ih=>
    show Jc m c c166_6 (Qn (fun k=>Jc m c c166_6 k (Qa 0 (a1 (Wf m c) 3) nx)) n) (Qa 0 (a1 (Wf m c) 3) nx) = _
    rw [ih,L166_6_b_eq m c (L166_6 m c n)]
    rfl
theorem L166_6_succ (n:Nat):L166_6 m c (n + 1) = L166_6_b m c (L166_6 m c n):=rfl
noncomputable def K166_5 (m:Nat) (c:Qd) (t0 t3 t4:AV):Kt:=
 L166_6 m c m t0 t3 t4
theorem K166_5_eq:Jc m c c166_5 (a1 (Wf m c) 3) nx = (a3 (K166_5 m c) 0 3 4):=by
  refine Tq (Qn (fun k=>Jc m c c166_6 k (Qa 0 (a1 (Wf m c) 3) nx)) m) (by kernel_rfl) ?_
  rw [L166_6_eq m c m]
  kernel_rfl
noncomputable def K166_3 (m:Nat) (c:Qd) (t0 t3:AV):Kt:=
 K166_5 m c t0 t3 (I 1)
theorem K166_3_eq:Jc m c c166_3 (Z166 m) nx = (a2 (K166_3 m c) 0 3):=by
  refine Tq (Jc m c (pS1 (pS1 c166_3)) (Jc m c c166_5 (Jc m c c166_4 (Z166 m) nx) nx) nx) (by kernel_rfl) ?_
  rw [K166_4_eq m c ,K166_5_eq m c ]
  kernel_rfl
noncomputable def K166_2 (m:Nat) (c:Qd) (t0:AV):Kt:=
 bnd (Q9 (C m) 25 t0 (I 0)) fun v0=>
 bnd (ldO (C m) 3 v0) fun v1=>
 K166_3 m c t0 v1
theorem K166_2_eq:Jc m c c166_2 (Z166 m) nx = (a1 (K166_2 m c) 0):=by
  refine Tq (Jc m c (pS1 c166_2) (Jc m c c166_3 (Z166 m) nx) nx) (by kernel_rfl) ?_
  rw [K166_3_eq m c ]
  kernel_rfl
noncomputable def K166_1 (m:Nat) (c:Qd) (t0:AV):Kt:=
 bnd (Qv (C m) .len [25] [t0]) fun v0=>
 bnd (Qi (C m) .lss 3 v0 (I 1)) fun v1=>
 ifB v1
 ((bnd (noO) fun v2=>
 bnd (noO) fun _=>
 K166_2 m c t0))
 ((K166_2 m c t0))
theorem K166_1_eq:Jc m c c166_1 (Z166 m) nx = (a1 (K166_1 m c) 0):=by
  refine Tq (Jc m c (pS1 (pS1 c166_1)) (fun e=>ifB (e 7) ((Jc m c (pC1 (pS2 (pS1 c166_1))) (Jc m c c166_2 (Z166 m) nx) nx) e) ((Jc m c c166_2 (Z166 m) nx) e)) nx) (by kernel_rfl) ?_
  rw [K166_2_eq m c ]
  kernel_rfl
noncomputable def K166_0 (m:Nat) (c:Qd) (t0:AV):Kt:=
 K166_1 m c t0
theorem K166_0_eq:Jc m c c166_0 (Z166 m) nx = (a1 (K166_0 m c) 0):=by
  refine Tq (Jc m c (pS1 c166_0) (Jc m c c166_1 (Z166 m) nx) nx) (by kernel_rfl) ?_
  rw [K166_1_eq m c ]
  kernel_rfl
theorem F166_eq (t0:AV):Qu (C m) c Tryz.f166 [t0] = K166_0 m c t0:=by
  refine Tq ((Jc m c c166_0 (Z166 m) nx) (Xl [t0])) (by kernel_rfl) ?_
  rw [K166_0_eq m c]
  rfl
noncomputable def c167_0:Code:=(Qw Tryz.f167)
noncomputable def c167_1:Code:=(pS2 c167_0)
noncomputable def c167_2:Code:=(pS2 c167_1)
noncomputable def c167_3:Code:=(pS2 c167_2)
noncomputable def c167_4:Code:=(pS2 c167_3)
noncomputable def c167_5:Code:=(pS2 (pS1 c167_3))
noncomputable def c167_6:Code:=(pL (pB c167_5))
noncomputable def c167_7:Code:=(pS2 c167_6)
noncomputable def c167_8:Code:=(pS2 c167_7)
noncomputable def Z167 (m:Nat):=fun (e:Nat→AV)=>Qo (C m) (Xh e Tryz.f167.results.toList)
noncomputable def Jd (m:Nat) (c:Qd) (p:Code) (k:TE→Kt) (x:Nat→TE→Kt):=Q2 p (C m) c k x (Z167 m)
noncomputable def Wg (m:Nat) (c:Qd) (t3:AV):Kt:=
 Qo (C m) [(none,t3)]
theorem K167_4_eq:Jd m c c167_4 (Z167 m) nx = (a1 (Wg m c) 3):=by
  refine Tq (Jd m c (pS1 c167_4) (Z167 m) nx) (by kernel_rfl) ?_
  kernel_rfl
noncomputable def K167_8 (m:Nat) (c:Qd) (h6:AV→AV→AV→Kt) (t0 t3 t4:AV):Kt:=
 bnd (Qi (C m) .add 3 t4 (I 1)) fun v0=>
 h6 t0 t3 v0
theorem K167_8_eq (h6:AV→AV→AV→Kt):Jd m c c167_8 (a3 h6 0 3 4) (Qa 0 (a1 (Wg m c) 3) nx) = (a3 (K167_8 m c h6) 0 3 4):=by
  kernel_rfl
noncomputable def K167_7 (m:Nat) (c:Qd) (h6:AV→AV→AV→Kt) (t0 t3 t4:AV):Kt:=
 bnd (Q9 (C m) 25 t0 t4) fun v0=>
 bnd (ldO (C m) 3 v0) fun v1=>
 bnd (Qv (C m) .max [3,3] [t3,v1]) fun v2=>
 K167_8 m c h6 t0 v2 t4
theorem K167_7_eq (h6:AV→AV→AV→Kt):Jd m c c167_7 (a3 h6 0 3 4) (Qa 0 (a1 (Wg m c) 3) nx) = (a3 (K167_7 m c h6) 0 3 4):=by
  refine Tq (Jd m c (pB (pS1 c167_7)) (Jd m c c167_8 (a3 h6 0 3 4) (Qa 0 (a1 (Wg m c) 3) nx)) (Qa 1 (Jd m c c167_8 (a3 h6 0 3 4) (Qa 0 (a1 (Wg m c) 3) nx)) (Qa 0 (a1 (Wg m c) 3) nx))) (by kernel_rfl) ?_
  rw [K167_8_eq m c h6 ]
  kernel_rfl
noncomputable def L167_6_b (m:Nat) (c:Qd) (h6:AV→AV→AV→Kt) (t0 t3 t4:AV):Kt:=
 bnd (Qv (C m) .len [25] [t0]) fun v0=>
 bnd (Qi (C m) .lss 3 t4 v0) fun v1=>
 ifB v1
 ((K167_7 m c h6 t0 t3 t4))
 ((Wg m c t3))
noncomputable def L167_6 (m:Nat) (c:Qd) (n:Nat):AV→AV→AV→Kt:=
 Nat.rec (motive:=fun _=>AV→AV→AV→Kt) (fun t0 t3 t4=>noK) (fun _ ih=>L167_6_b m c ih) n
theorem L167_6_b_eq (h6:AV→AV→AV→Kt):Jd m c c167_6 (a3 h6 0 3 4) (Qa 0 (a1 (Wg m c) 3) nx) = fun e=>L167_6_b m c h6 (e 0) (e 3) (e 4):=by
  refine Tq (Jd m c (pS1 (pS1 c167_6)) (fun e=>ifB (e 15) ((Jd m c c167_7 (a3 h6 0 3 4) (Qa 0 (a1 (Wg m c) 3) nx)) e) ((a1 (Wg m c) 3) e)) (Qa 0 (a1 (Wg m c) 3) nx)) (by kernel_rfl) ?_
  rw [K167_7_eq m c h6 ]
  kernel_rfl
theorem L167_6_eq (n:Nat):(Qn (fun k=>Jd m c c167_6 k (Qa 0 (a1 (Wg m c) 3) nx)) n) = (a3 (L167_6 m c n) 0 3 4):=by
  induction n with
  | zero=>rfl
  | succ n ih=>
    show Jd m c c167_6 (Qn (fun k=>Jd m c c167_6 k (Qa 0 (a1 (Wg m c) 3) nx)) n) (Qa 0 (a1 (Wg m c) 3) nx) = _
    rw [ih,L167_6_b_eq m c (L167_6 m c n)]
    rfl
theorem L167_6_succ (n:Nat):L167_6 m c (n + 1) = L167_6_b m c (L167_6 m c n):=rfl
noncomputable def K167_5 (m:Nat) (c:Qd) (t0 t3 t4:AV):Kt:=
 L167_6 m c m t0 t3 t4
theorem K167_5_eq:Jd m c c167_5 (a1 (Wg m c) 3) nx = (a3 (K167_5 m c) 0 3 4):=by
  refine Tq (Qn (fun k=>Jd m c c167_6 k (Qa 0 (a1 (Wg m c) 3) nx)) m) (by kernel_rfl) ?_
  rw [L167_6_eq m c m]
  kernel_rfl
noncomputable def K167_3 (m:Nat) (c:Qd) (t0 t3:AV):Kt:=
 K167_5 m c t0 t3 (I 1)
theorem K167_3_eq:Jd m c c167_3 (Z167 m) nx = (a2 (K167_3 m c) 0 3):=by
  refine Tq (Jd m c (pS1 (pS1 c167_3)) (Jd m c c167_5 (Jd m c c167_4 (Z167 m) nx) nx) nx) (by kernel_rfl) ?_
  rw [K167_4_eq m c ,K167_5_eq m c ]
  kernel_rfl
noncomputable def K167_2 (m:Nat) (c:Qd) (t0:AV):Kt:=
 bnd (Q9 (C m) 25 t0 (I 0)) fun v0=>
 bnd (ldO (C m) 3 v0) fun v1=>
 K167_3 m c t0 v1
theorem K167_2_eq:Jd m c c167_2 (Z167 m) nx = (a1 (K167_2 m c) 0):=by
  refine Tq (Jd m c (pS1 c167_2) (Jd m c c167_3 (Z167 m) nx) nx) (by kernel_rfl) ?_
  rw [K167_3_eq m c ]
  kernel_rfl
noncomputable def K167_1 (m:Nat) (c:Qd) (t0:AV):Kt:=
 bnd (Qv (C m) .len [25] [t0]) fun v0=>
 bnd (Qi (C m) .lss 3 v0 (I 1)) fun v1=>
 ifB v1
 ((bnd (noO) fun v2=>
 bnd (noO) fun _=>
 K167_2 m c t0))
 ((K167_2 m c t0))
theorem K167_1_eq:Jd m c c167_1 (Z167 m) nx = (a1 (K167_1 m c) 0):=by
  refine Tq (Jd m c (pS1 (pS1 c167_1)) (fun e=>ifB (e 7) ((Jd m c (pC1 (pS2 (pS1 c167_1))) (Jd m c c167_2 (Z167 m) nx) nx) e) ((Jd m c c167_2 (Z167 m) nx) e)) nx) (by kernel_rfl) ?_
  rw [K167_2_eq m c ]
  kernel_rfl
noncomputable def K167_0 (m:Nat) (c:Qd) (t0:AV):Kt:=
 K167_1 m c t0
theorem K167_0_eq:Jd m c c167_0 (Z167 m) nx = (a1 (K167_0 m c) 0):=by
  refine Tq (Jd m c (pS1 c167_0) (Jd m c c167_1 (Z167 m) nx) nx) (by kernel_rfl) ?_
  rw [K167_1_eq m c ]
  kernel_rfl
theorem F167_eq (t0:AV):Qu (C m) c Tryz.f167 [t0] = K167_0 m c t0:=by
  refine Tq ((Jd m c c167_0 (Z167 m) nx) (Xl [t0])) (by kernel_rfl) ?_
  rw [K167_0_eq m c]
  rfl
noncomputable def c125_0:Code:=(Qw Tryz.f125)
noncomputable def Z125 (m:Nat):=fun (e:Nat→AV)=>Qo (C m) (Xh e Tryz.f125.results.toList)
noncomputable def D125 (m:Nat) (c:Qd) (p:Code) (k:TE→Kt) (x:Nat→TE→Kt):=Q2 p (C m) c k x (Z125 m)
noncomputable def K125_0 (m:Nat) (c:Qd) (t0 t1:AV):Kt:=
 bnd (Z2 87 t0) fun v0=>
 bnd (ldO (C m) 87 v0) fun v1=>
 bnd (Qh (C m) 31 t1 1) fun v2=>
 bnd (ldO (C m) 3 v2) fun v3=>
 bnd (Qy (C m) c (fnV 126) [v1,v3]) fun v4=>
 bnd (unO .not v4) fun v5=>
 Qo (C m) [(none,v5)]
theorem K125_0_eq:D125 m c c125_0 (Z125 m) nx = (a2 (K125_0 m c) 0 1):=by
  refine Tq (D125 m c (pS1 c125_0) (D125 m c (pS1 (pS2 c125_0)) (Z125 m) nx) nx) (by kernel_rfl) ?_
  kernel_rfl
theorem F125_eq (t0 t1:AV):Qu (C m) c Tryz.f125 [t0,t1] = K125_0 m c t0 t1:=by
  refine Tq ((D125 m c c125_0 (Z125 m) nx) (Xl [t0,t1])) (by kernel_rfl) ?_
  rw [K125_0_eq m c]
  rfl
noncomputable def c126_0:Code:=(Qw Tryz.f126)
noncomputable def c126_1:Code:=(pS2 c126_0)
noncomputable def c126_2:Code:=(pS2 c126_1)
noncomputable def c126_3:Code:=(pS2 (pS1 c126_1))
noncomputable def c126_4:Code:=(pL (pB c126_3))
noncomputable def c126_5:Code:=(pS2 c126_4)
noncomputable def c126_6:Code:=(pS2 c126_5)
noncomputable def c126_7:Code:=(pS2 c126_6)
noncomputable def Z126 (m:Nat):=fun (e:Nat→AV)=>Qo (C m) (Xh e Tryz.f126.results.toList)
noncomputable def Ju (m:Nat) (c:Qd) (p:Code) (k:TE→Kt) (x:Nat→TE→Kt):=Q2 p (C m) c k x (Z126 m)
noncomputable def Zp (m:Nat) (c:Qd) (t1 t2:AV):Kt:=
 bnd (Qh (C m) 87 t2 0) fun v0=>
 bnd (ldO (C m) 85 v0) fun v1=>
 bnd (Qv (C m) .len [85] [v1]) fun v2=>
 bnd (Qi (C m) .leq 3 v2 t1) fun v3=>
 bnd (gdO (Qc v3 true) (Qh (C m) 87 t2 1)) fun v4=>
 bnd (gdO (Qc v3 true) (ldO (C m) 3 v4)) fun v5=>
 bnd (gdO (Qc v3 true) (Qi (C m) .geq 3 v5 (I 0))) fun v6=>
 bnd (Qm v3 v6 (B false)) fun v7=>
 bnd (gdO (Qc v7 true) (Qh (C m) 87 t2 1)) fun v8=>
 bnd (gdO (Qc v7 true) (ldO (C m) 3 v8)) fun v9=>
 bnd (gdO (Qc v7 true) (Qi (C m) .leq 3 v9 (I 1099511627776))) fun v10=>
 bnd (Qm v7 v10 (B false)) fun v11=>
 Qo (C m) [(none,v11)]
theorem K126_2_eq:Ju m c c126_2 (Z126 m) nx = (a2 (Zp m c) 1 2):=by
  refine Tq (Ju m c (pS1 c126_2) (Z126 m) nx) (by kernel_rfl) ?_
  kernel_rfl
noncomputable def K126_7 (m:Nat) (c:Qd) (h4:AV→AV→AV→AV→AV→Kt) (t1 t2 t8 t9 t10:AV):Kt:=
 bnd (Qi (C m) .add 3 t10 (I 1)) fun v0=>
 h4 t1 t2 t8 t9 v0
theorem K126_7_eq (h4:AV→AV→AV→AV→AV→Kt):Ju m c c126_7 (a5 h4 1 2 8 9 10) (Qa 0 (a2 (Zp m c) 1 2) nx) = (a5 (K126_7 m c h4) 1 2 8 9 10):=by
  kernel_rfl
noncomputable def K126_6 (m:Nat) (c:Qd) (h4:AV→AV→AV→AV→AV→Kt) (t1 t2 t8 t9 t10:AV):Kt:=
 bnd (Q9 (C m) 85 t8 t10) fun v0=>
 bnd (ldO (C m) 92 v0) fun v1=>
 bnd (Xe (C m) 92) fun v2=>
 bnd (stO (C m) 92 v2 v1) fun _=>
 bnd (Qh (C m) 92 v2 1) fun v3=>
 bnd (ldO (C m) 3 v3) fun v4=>
 bnd (Qi (C m) .lss 3 v4 (I 1)) fun v5=>
 bnd (gdO (Qc v5 false) (Qh (C m) 92 v2 1)) fun v6=>
 bnd (gdO (Qc v5 false) (ldO (C m) 3 v6)) fun v7=>
 bnd (gdO (Qc v5 false) (Qi (C m) .gtr 3 v7 (I 1099511627776))) fun v8=>
 bnd (Qm v5 (B true) v8) fun v9=>
 bnd (gdO (Qc v9 false) (ldO (C m) 87 t2)) fun v10=>
 bnd (gdO (Qc v9 false) (Qh (C m) 92 v2 0)) fun v11=>
 bnd (gdO (Qc v9 false) (ldO (C m) 9 v11)) fun v12=>
 bnd (gdO (Qc v9 false) (Qy (C m) c (fnV 95) [v10,v12])) fun v13=>
 bnd (gdO (Qc v9 false) (fun _=>.val t10)) fun v14=>
 bnd (gdO (Qc v9 false) (Qi (C m) .lss 3 v13 v14)) fun v15=>
 bnd (Qm v9 (B true) v15) fun v16=>
 ifB v16
 ((Qo (C m) [(none,(B false))]))
 ((K126_7 m c h4 t1 t2 t8 t9 t10))
theorem K126_6_eq (h4:AV→AV→AV→AV→AV→Kt):Ju m c c126_6 (a5 h4 1 2 8 9 10) (Qa 0 (a2 (Zp m c) 1 2) nx) = (a5 (K126_6 m c h4) 1 2 8 9 10):=by
  refine Tq (Ju m c (pS1 (pB (pS1 c126_6))) (Ju m c (pS1 (pS2 (pB (pS1 c126_6)))) (fun e=>ifB (e 30) ((Ju m c (pS1 (pC1 (pS2 (pS2 (pB (pS1 c126_6)))))) (Z126 m) (Qa 1 (Ju m c c126_7 (a5 h4 1 2 8 9 10) (Qa 0 (a2 (Zp m c) 1 2) nx)) (Qa 0 (a2 (Zp m c) 1 2) nx))) e) ((Ju m c c126_7 (a5 h4 1 2 8 9 10) (Qa 0 (a2 (Zp m c) 1 2) nx)) e)) (Qa 1 (Ju m c c126_7 (a5 h4 1 2 8 9 10) (Qa 0 (a2 (Zp m c) 1 2) nx)) (Qa 0 (a2 (Zp m c) 1 2) nx))) (Qa 1 (Ju m c c126_7 (a5 h4 1 2 8 9 10) (Qa 0 (a2 (Zp m c) 1 2) nx)) (Qa 0 (a2 (Zp m c) 1 2) nx))) (by kernel_rfl) ?_
  rw [K126_7_eq m c h4 ]
  kernel_rfl
noncomputable def K126_5 (m:Nat) (c:Qd) (h4:AV→AV→AV→AV→AV→Kt) (t1 t2 t8 t9 t10 t11:AV):Kt:=
 ifB t11
 ((K126_6 m c h4 t1 t2 t8 t9 t10))
 ((Zp m c t1 t2))
theorem K126_5_eq (h4:AV→AV→AV→AV→AV→Kt):Ju m c c126_5 (a5 h4 1 2 8 9 10) (Qa 0 (a2 (Zp m c) 1 2) nx) = (a6 (K126_5 m c h4) 1 2 8 9 10 11):=by
  refine Tq (fun e=>ifB (e 11) ((Ju m c c126_6 (a5 h4 1 2 8 9 10) (Qa 0 (a2 (Zp m c) 1 2) nx)) e) ((a2 (Zp m c) 1 2) e)) (by kernel_rfl) ?_
  rw [K126_6_eq m c h4 ]
  kernel_rfl
noncomputable def L126_4_b (m:Nat) (c:Qd) (h4:AV→AV→AV→AV→AV→Kt) (t1 t2 t8 t9 t10:AV):Kt:=
 bnd (Qi (C m) .lss 3 t10 t9) fun v0=>
 K126_5 m c h4 t1 t2 t8 t9 t10 v0
noncomputable def L126_4 (m:Nat) (c:Qd) (n:Nat):AV→AV→AV→AV→AV→Kt:=
 Nat.rec (motive:=fun _=>AV→AV→AV→AV→AV→Kt) (fun t1 t2 t8 t9 t10=>noK) (fun _ ih=>L126_4_b m c ih) n
theorem L126_4_b_eq (h4:AV→AV→AV→AV→AV→Kt):Ju m c c126_4 (a5 h4 1 2 8 9 10) (Qa 0 (a2 (Zp m c) 1 2) nx) = fun e=>L126_4_b m c h4 (e 1) (e 2) (e 8) (e 9) (e 10):=by
  refine Tq (Ju m c (pS1 c126_4) (Ju m c c126_5 (a5 h4 1 2 8 9 10) (Qa 0 (a2 (Zp m c) 1 2) nx)) (Qa 0 (a2 (Zp m c) 1 2) nx)) (by kernel_rfl) ?_
  rw [K126_5_eq m c h4 ]
  kernel_rfl
theorem L126_4_eq (n:Nat):(Qn (fun k=>Ju m c c126_4 k (Qa 0 (a2 (Zp m c) 1 2) nx)) n) = (a5 (L126_4 m c n) 1 2 8 9 10):=by
  induction n with
  | zero=>rfl
  | succ n ih=>
    show Ju m c c126_4 (Qn (fun k=>Ju m c c126_4 k (Qa 0 (a2 (Zp m c) 1 2) nx)) n) (Qa 0 (a2 (Zp m c) 1 2) nx) = _
    rw [ih,L126_4_b_eq m c (L126_4 m c n)]
    rfl
theorem L126_4_succ (n:Nat):L126_4 m c (n + 1) = L126_4_b m c (L126_4 m c n):=rfl
noncomputable def K126_3 (m:Nat) (c:Qd) (t1 t2 t8 t9 t10:AV):Kt:=
 L126_4 m c m t1 t2 t8 t9 t10
theorem K126_3_eq:Ju m c c126_3 (a2 (Zp m c) 1 2) nx = (a5 (K126_3 m c) 1 2 8 9 10):=by
  refine Tq (Qn (fun k=>Ju m c c126_4 k (Qa 0 (a2 (Zp m c) 1 2) nx)) m) (by kernel_rfl) ?_
  rw [L126_4_eq m c m]
  kernel_rfl
noncomputable def K126_1 (m:Nat) (c:Qd) (t1 t2:AV):Kt:=
 bnd (Qh (C m) 87 t2 0) fun v0=>
 bnd (ldO (C m) 85 v0) fun v1=>
 bnd (Qv (C m) .len [85] [v1]) fun v2=>
 K126_3 m c t1 t2 v1 v2 (I 0)
theorem K126_1_eq:Ju m c c126_1 (Z126 m) nx = (a2 (K126_1 m c) 1 2):=by
  refine Tq (Ju m c (pS1 (pS1 c126_1)) (Ju m c c126_3 (Ju m c c126_2 (Z126 m) nx) nx) nx) (by kernel_rfl) ?_
  rw [K126_2_eq m c ,K126_3_eq m c ]
  kernel_rfl
noncomputable def K126_0 (m:Nat) (c:Qd) (t0 t1:AV):Kt:=
 bnd (Z2 87 t0) fun v0=>
 K126_1 m c t1 v0
theorem K126_0_eq:Ju m c c126_0 (Z126 m) nx = (a2 (K126_0 m c) 0 1):=by
  refine Tq (Ju m c (pS1 c126_0) (Ju m c c126_1 (Z126 m) nx) nx) (by kernel_rfl) ?_
  rw [K126_1_eq m c ]
  kernel_rfl
theorem F126_eq (t0 t1:AV):Qu (C m) c Tryz.f126 [t0,t1] = K126_0 m c t0 t1:=by
  refine Tq ((Ju m c c126_0 (Z126 m) nx) (Xl [t0,t1])) (by kernel_rfl) ?_
  rw [K126_0_eq m c]
  rfl
noncomputable def c124_0:Code:=(Qw Tryz.f124)
noncomputable def Z124 (m:Nat):=fun (e:Nat→AV)=>Qo (C m) (Xh e Tryz.f124.results.toList)
noncomputable def D124 (m:Nat) (c:Qd) (p:Code) (k:TE→Kt) (x:Nat→TE→Kt):=Q2 p (C m) c k x (Z124 m)
noncomputable def K124_0 (m:Nat) (c:Qd) (t0 t1:AV):Kt:=
 bnd (Qy (C m) c (fnV 168) [t0,t1]) fun v0=>
 bnd (Qi (C m) .geq 3 v0 (I 0)) fun v1=>
 Qo (C m) [(none,v1)]
theorem K124_0_eq:D124 m c c124_0 (Z124 m) nx = (a2 (K124_0 m c) 0 1):=by
  refine Tq (D124 m c (pS1 c124_0) (D124 m c (pS1 (pS2 c124_0)) (Z124 m) nx) nx) (by kernel_rfl) ?_
  kernel_rfl
theorem F124_eq (t0 t1:AV):Qu (C m) c Tryz.f124 [t0,t1] = K124_0 m c t0 t1:=by
  refine Tq ((D124 m c c124_0 (Z124 m) nx) (Xl [t0,t1])) (by kernel_rfl) ?_
  rw [K124_0_eq m c]
  rfl
noncomputable def c168_0:Code:=(Qw Tryz.f168)
noncomputable def c168_1:Code:=(pS2 c168_0)
noncomputable def c168_2:Code:=(pS2 c168_1)
noncomputable def c168_3:Code:=(pS2 (pS1 c168_1))
noncomputable def c168_4:Code:=(pL (pB c168_3))
noncomputable def c168_5:Code:=(pS2 c168_4)
noncomputable def c168_6:Code:=(pS2 c168_5)
noncomputable def c168_7:Code:=(pS2 c168_6)
noncomputable def Z168 (m:Nat):=fun (e:Nat→AV)=>Qo (C m) (Xh e Tryz.f168.results.toList)
noncomputable def Jv (m:Nat) (c:Qd) (p:Code) (k:TE→Kt) (x:Nat→TE→Kt):=Q2 p (C m) c k x (Z168 m)
noncomputable def Zq (m:Nat) (c:Qd):Kt:=
 Qo (C m) [(none,(I (-1)))]
theorem K168_2_eq:Jv m c c168_2 (Z168 m) nx = (a0 (Zq m c)):=by
  refine Tq (Jv m c (pS1 c168_2) (Z168 m) nx) (by kernel_rfl) ?_
  kernel_rfl
noncomputable def K168_7 (m:Nat) (c:Qd) (h4:AV→AV→AV→AV→Kt) (t0 t1 t7 t8:AV):Kt:=
 bnd (Qi (C m) .add 3 t8 (I 1)) fun v0=>
 h4 t0 t1 t7 v0
theorem K168_7_eq (h4:AV→AV→AV→AV→Kt):Jv m c c168_7 (a4 h4 0 1 7 8) (Qa 0 (a0 (Zq m c)) nx) = (a4 (K168_7 m c h4) 0 1 7 8):=by
  kernel_rfl
noncomputable def K168_6 (m:Nat) (c:Qd) (h4:AV→AV→AV→AV→Kt) (t0 t1 t7 t8:AV):Kt:=
 bnd (Q9 (C m) 26 t0 t8) fun v0=>
 bnd (ldO (C m) 87 v0) fun v1=>
 bnd (Qy (C m) c t1 [v1]) fun v2=>
 ifB v2
 ((Qo (C m) [(none,t8)]))
 ((K168_7 m c h4 t0 t1 t7 t8))
theorem K168_6_eq (h4:AV→AV→AV→AV→Kt):Jv m c c168_6 (a4 h4 0 1 7 8) (Qa 0 (a0 (Zq m c)) nx) = (a4 (K168_6 m c h4) 0 1 7 8):=by
  refine Tq (Jv m c (pS1 (pB (pS1 c168_6))) (Jv m c (pS1 (pS2 (pB (pS1 c168_6)))) (fun e=>ifB (e 16) ((Jv m c (pS1 (pC1 (pS2 (pS2 (pB (pS1 c168_6)))))) (Z168 m) (Qa 1 (Jv m c c168_7 (a4 h4 0 1 7 8) (Qa 0 (a0 (Zq m c)) nx)) (Qa 0 (a0 (Zq m c)) nx))) e) ((Jv m c c168_7 (a4 h4 0 1 7 8) (Qa 0 (a0 (Zq m c)) nx)) e)) (Qa 1 (Jv m c c168_7 (a4 h4 0 1 7 8) (Qa 0 (a0 (Zq m c)) nx)) (Qa 0 (a0 (Zq m c)) nx))) (Qa 1 (Jv m c c168_7 (a4 h4 0 1 7 8) (Qa 0 (a0 (Zq m c)) nx)) (Qa 0 (a0 (Zq m c)) nx))) (by kernel_rfl) ?_
  rw [K168_7_eq m c h4 ]
  kernel_rfl
noncomputable def K168_5 (m:Nat) (c:Qd) (h4:AV→AV→AV→AV→Kt) (t0 t1 t7 t8 t9:AV):Kt:=
 ifB t9
 ((K168_6 m c h4 t0 t1 t7 t8))
 ((Zq m c))
theorem K168_5_eq (h4:AV→AV→AV→AV→Kt):Jv m c c168_5 (a4 h4 0 1 7 8) (Qa 0 (a0 (Zq m c)) nx) = (a5 (K168_5 m c h4) 0 1 7 8 9):=by
  refine Tq (fun e=>ifB (e 9) ((Jv m c c168_6 (a4 h4 0 1 7 8) (Qa 0 (a0 (Zq m c)) nx)) e) ((a0 (Zq m c)) e)) (by kernel_rfl) ?_
  rw [K168_6_eq m c h4 ]
  kernel_rfl
noncomputable def L168_4_b (m:Nat) (c:Qd) (h4:AV→AV→AV→AV→Kt) (t0 t1 t7 t8:AV):Kt:=
 bnd (Qi (C m) .lss 3 t8 t7) fun v0=>
 K168_5 m c h4 t0 t1 t7 t8 v0
noncomputable def L168_4 (m:Nat) (c:Qd) (n:Nat):AV→AV→AV→AV→Kt:=
 Nat.rec (motive:=fun _=>AV→AV→AV→AV→Kt) (fun t0 t1 t7 t8=>noK) (fun _ ih=>L168_4_b m c ih) n
theorem L168_4_b_eq (h4:AV→AV→AV→AV→Kt):Jv m c c168_4 (a4 h4 0 1 7 8) (Qa 0 (a0 (Zq m c)) nx) = fun e=>L168_4_b m c h4 (e 0) (e 1) (e 7) (e 8):=by
  refine Tq (Jv m c (pS1 c168_4) (Jv m c c168_5 (a4 h4 0 1 7 8) (Qa 0 (a0 (Zq m c)) nx)) (Qa 0 (a0 (Zq m c)) nx)) (by kernel_rfl) ?_
  rw [K168_5_eq m c h4 ]
  kernel_rfl
theorem L168_4_eq (n:Nat):(Qn (fun k=>Jv m c c168_4 k (Qa 0 (a0 (Zq m c)) nx)) n) = (a4 (L168_4 m c n) 0 1 7 8):=by
  induction n with
  | zero=>rfl
  | succ n ih=>
    show Jv m c c168_4 (Qn (fun k=>Jv m c c168_4 k (Qa 0 (a0 (Zq m c)) nx)) n) (Qa 0 (a0 (Zq m c)) nx) = _
    rw [ih,L168_4_b_eq m c (L168_4 m c n)]
    rfl
theorem L168_4_succ (n:Nat):L168_4 m c (n + 1) = L168_4_b m c (L168_4 m c n):=rfl
noncomputable def K168_3 (m:Nat) (c:Qd) (t0 t1 t7 t8:AV):Kt:=
 L168_4 m c m t0 t1 t7 t8
theorem K168_3_eq:Jv m c c168_3 (a0 (Zq m c)) nx = (a4 (K168_3 m c) 0 1 7 8):=by
  refine Tq (Qn (fun k=>Jv m c c168_4 k (Qa 0 (a0 (Zq m c)) nx)) m) (by kernel_rfl) ?_
  rw [L168_4_eq m c m]
  kernel_rfl
noncomputable def K168_1 (m:Nat) (c:Qd) (t0 t1:AV):Kt:=
 bnd (Qv (C m) .len [26] [t0]) fun v0=>
 K168_3 m c t0 t1 v0 (I 0)
theorem K168_1_eq:Jv m c c168_1 (Z168 m) nx = (a2 (K168_1 m c) 0 1):=by
  refine Tq (Jv m c (pS1 (pS1 c168_1)) (Jv m c c168_3 (Jv m c c168_2 (Z168 m) nx) nx) nx) (by kernel_rfl) ?_
  rw [K168_2_eq m c ,K168_3_eq m c ]
  kernel_rfl
noncomputable def K168_0 (m:Nat) (c:Qd) (t0 t1:AV):Kt:=
 K168_1 m c t0 t1
theorem K168_0_eq:Jv m c c168_0 (Z168 m) nx = (a2 (K168_0 m c) 0 1):=by
  refine Tq (Jv m c (pS1 c168_0) (Jv m c c168_1 (Z168 m) nx) nx) (by kernel_rfl) ?_
  rw [K168_1_eq m c ]
  kernel_rfl
theorem F168_eq (t0 t1:AV):Qu (C m) c Tryz.f168 [t0,t1] = K168_0 m c t0 t1:=by
  refine Tq ((Jv m c c168_0 (Z168 m) nx) (Xl [t0,t1])) (by kernel_rfl) ?_
  rw [K168_0_eq m c]
  rfl
noncomputable def c70_0:Code:=(Qw Tryz.f70)
noncomputable def Z70 (m:Nat):=fun (e:Nat→AV)=>Qo (C m) (Xh e Tryz.f70.results.toList)
noncomputable def D70 (m:Nat) (c:Qd) (p:Code) (k:TE→Kt) (x:Nat→TE→Kt):=Q2 p (C m) c k x (Z70 m)
noncomputable def K70_0 (m:Nat) (c:Qd) (t0:AV):Kt:=
 bnd (Z2 37 t0) fun v0=>
 dIn fun sv1=>
 Qk (Qh (C m) 37 v0 1) fun v2=>
 Qr (ldO (C m) 34 v2) fun v3=>
 Xn (Qy (C m) c (fnV 86) [v3]) fun v4 sv4=>
 Qk (unO .not v4) fun v5=>
 Qk (gdO (Qc v5 false) (Qh (C m) 37 v0 0)) fun v6=>
 Qr (gdO (Qc v5 false) (ldO (C m) 22 v6)) fun v7=>
 Xn (gdO (Qc v5 false) (Qy (C m) c (fnV 12) [v7,(I 0)])) fun v8 sv8=>
 Qk (gdO (Qc v5 false) (Qh (C m) 37 v0 1)) fun v9=>
 Qk (gdO (Qc v5 false) (Qh (C m) 34 v9 0)) fun v10=>
 Ze ((Qc v5 false)) (ldO (C m) 22 v10) (fun v11=>(Xk (ldO (C m) 22 v10) v11 sv8 && (Xk (ldO (C m) 22 v10) v11 sv4 && true))) fun v12=>
 Qk (gdO (Qc v5 false) (Qi (C m) .neq 22 v12 v8)) fun v13=>
 Qk (Qm v5 (B true) v13) fun v14=>
 Qk (gdO (Qc v14 false) (Qh (C m) 37 v0 2)) fun v15=>
 Qr (gdO (Qc v14 false) (ldO (C m) 35 v15)) fun v16=>
 Qr (gdO (Qc v14 false) (Qv (C m) .len [35] [v16])) fun v17=>
 Qk (gdO (Qc v14 false) (Qi (C m) .lss 3 v17 (I 1))) fun v18=>
 Qk (Qm v14 (B true) v18) fun v19=>
 Qk (gdO (Qc v19 false) (Qh (C m) 37 v0 2)) fun v20=>
 Qr (gdO (Qc v19 false) (ldO (C m) 35 v20)) fun v21=>
 Qr (gdO (Qc v19 false) (Qv (C m) .len [35] [v21])) fun v22=>
 Qk (gdO (Qc v19 false) (Qi (C m) .gtr 3 v22 (I 7))) fun v23=>
 Qk (Qm v19 (B true) v23) fun v24=>
 ifB v24
 ((Qo (C m) [(none,(B false))]))
 ((bnd (Qh (C m) 37 v0 2) fun v25=>
 bnd (ldO (C m) 35 v25) fun v26=>
 bnd (funO (.func 128) true [v0]) fun v27=>
 bnd (Qy (C m) c (fnV 127) [v26,v27]) fun v28=>
 bnd (unO .not v28) fun v29=>
 Qo (C m) [(none,v29)]))
theorem K70_0_eq:D70 m c c70_0 (Z70 m) nx = (a1 (K70_0 m c) 0):=by
  refine Tq (D70 m c (pS1 c70_0) (D70 m c (pS1 (pS1 (pS2 c70_0))) (fun e=>ifB (e 27) ((D70 m c (pS1 (pC1 (pS2 (pS1 (pS2 c70_0))))) (Z70 m) nx) e) ((D70 m c (pS1 (pS2 (pS2 c70_0))) (Z70 m) nx) e)) nx) nx) (by kernel_rfl) ?_
  kernel_rfl
theorem F70_eq (t0:AV):Qu (C m) c Tryz.f70 [t0] = K70_0 m c t0:=by
  refine Tq ((D70 m c c70_0 (Z70 m) nx) (Xl [t0])) (by kernel_rfl) ?_
  rw [K70_0_eq m c]
  rfl
noncomputable def c128_0:Code:=(Qw Tryz.f128)
noncomputable def Z128 (m:Nat):=fun (e:Nat→AV)=>Qo (C m) (Xh e Tryz.f128.results.toList)
noncomputable def D128 (m:Nat) (c:Qd) (p:Code) (k:TE→Kt) (x:Nat→TE→Kt):=Q2 p (C m) c k x (Z128 m)
noncomputable def K128_0 (m:Nat) (c:Qd) (t0 t1:AV):Kt:=
 bnd (Qv (C m) .len [94] [t0]) fun v0=>
 bnd (Qi (C m) .lss 3 v0 (I 1)) fun v1=>
 bnd (gdO (Qc v1 false) (fun _=>.val t0)) fun v2=>
 bnd (gdO (Qc v1 false) (Qv (C m) .len [94] [v2])) fun v3=>
 bnd (gdO (Qc v1 false) (Qi (C m) .gtr 3 v3 (I 256))) fun v4=>
 bnd (Qm v1 (B true) v4) fun v5=>
 bnd (gdO (Qc v5 false) (fun _=>.val t0)) fun v6=>
 bnd (gdO (Qc v5 false) (Qv (C m) .len [94] [v6])) fun v7=>
 bnd (gdO (Qc v5 false) (Qh (C m) 37 t1 2)) fun v8=>
 bnd (gdO (Qc v5 false) (ldO (C m) 35 v8)) fun v9=>
 bnd (gdO (Qc v5 false) (Q9 (C m) 35 v9 (I 0))) fun v10=>
 bnd (gdO (Qc v5 false) (ldO (C m) 94 v10)) fun v11=>
 bnd (gdO (Qc v5 false) (Qv (C m) .len [94] [v11])) fun v12=>
 bnd (gdO (Qc v5 false) (Qi (C m) .neq 3 v7 v12)) fun v13=>
 bnd (Qm v5 (B true) v13) fun v14=>
 bnd (gdO (Qc v14 false) (fun _=>.val t0)) fun v15=>
 bnd (gdO (Qc v14 false) (Qy (C m) c (fnV 75) [v15,(fnV 104)])) fun v16=>
 bnd (Qm v14 (B true) v16) fun v17=>
 Qo (C m) [(none,v17)]
theorem K128_0_eq:D128 m c c128_0 (Z128 m) nx = (a2 (K128_0 m c) 0 1):=by
  refine Tq (D128 m c (pS1 c128_0) (D128 m c (pS1 (pS2 c128_0)) (Z128 m) nx) nx) (by kernel_rfl) ?_
  kernel_rfl
theorem F128_eq (t0 t1:AV):Qu (C m) c Tryz.f128 [t0,t1] = K128_0 m c t0 t1:=by
  refine Tq ((D128 m c c128_0 (Z128 m) nx) (Xl [t0,t1])) (by kernel_rfl) ?_
  rw [K128_0_eq m c]
  rfl
noncomputable def c75_0:Code:=(Qw Tryz.f75)
noncomputable def Z75 (m:Nat):=fun (e:Nat→AV)=>Qo (C m) (Xh e Tryz.f75.results.toList)
noncomputable def D75 (m:Nat) (c:Qd) (p:Code) (k:TE→Kt) (x:Nat→TE→Kt):=Q2 p (C m) c k x (Z75 m)
noncomputable def K75_0 (m:Nat) (c:Qd) (t0 t1:AV):Kt:=
 bnd (Qy (C m) c (fnV 134) [t0,t1]) fun v0=>
 bnd (Qi (C m) .geq 3 v0 (I 0)) fun v1=>
 Qo (C m) [(none,v1)]
theorem K75_0_eq:D75 m c c75_0 (Z75 m) nx = (a2 (K75_0 m c) 0 1):=by
  refine Tq (D75 m c (pS1 c75_0) (D75 m c (pS1 (pS2 c75_0)) (Z75 m) nx) nx) (by kernel_rfl) ?_
  kernel_rfl
theorem F75_eq (t0 t1:AV):Qu (C m) c Tryz.f75 [t0,t1] = K75_0 m c t0 t1:=by
  refine Tq ((D75 m c c75_0 (Z75 m) nx) (Xl [t0,t1])) (by kernel_rfl) ?_
  rw [K75_0_eq m c]
  rfl
noncomputable def c134_0:Code:=(Qw Tryz.f134)
noncomputable def c134_1:Code:=(pS2 c134_0)
noncomputable def c134_2:Code:=(pS2 c134_1)
noncomputable def c134_3:Code:=(pS2 (pS1 c134_1))
noncomputable def c134_4:Code:=(pL (pB c134_3))
noncomputable def c134_5:Code:=(pS2 c134_4)
noncomputable def c134_6:Code:=(pS2 c134_5)
noncomputable def c134_7:Code:=(pS2 c134_6)
noncomputable def Z134 (m:Nat):=fun (e:Nat→AV)=>Qo (C m) (Xh e Tryz.f134.results.toList)
noncomputable def Jw (m:Nat) (c:Qd) (p:Code) (k:TE→Kt) (x:Nat→TE→Kt):=Q2 p (C m) c k x (Z134 m)
noncomputable def Zr (m:Nat) (c:Qd):Kt:=
 Qo (C m) [(none,(I (-1)))]
theorem K134_2_eq:Jw m c c134_2 (Z134 m) nx = (a0 (Zr m c)):=by
  refine Tq (Jw m c (pS1 c134_2) (Z134 m) nx) (by kernel_rfl) ?_
  kernel_rfl
noncomputable def K134_7 (m:Nat) (c:Qd) (h4:AV→AV→AV→AV→Kt) (t0 t1 t7 t8:AV):Kt:=
 bnd (Qi (C m) .add 3 t8 (I 1)) fun v0=>
 h4 t0 t1 t7 v0
theorem K134_7_eq (h4:AV→AV→AV→AV→Kt):Jw m c c134_7 (a4 h4 0 1 7 8) (Qa 0 (a0 (Zr m c)) nx) = (a4 (K134_7 m c h4) 0 1 7 8):=by
  kernel_rfl
noncomputable def K134_6 (m:Nat) (c:Qd) (h4:AV→AV→AV→AV→Kt) (t0 t1 t7 t8:AV):Kt:=
 bnd (Q9 (C m) 94 t0 t8) fun v0=>
 bnd (ldO (C m) 97 v0) fun v1=>
 bnd (Qy (C m) c t1 [v1]) fun v2=>
 ifB v2
 ((Qo (C m) [(none,t8)]))
 ((K134_7 m c h4 t0 t1 t7 t8))
theorem K134_6_eq (h4:AV→AV→AV→AV→Kt):Jw m c c134_6 (a4 h4 0 1 7 8) (Qa 0 (a0 (Zr m c)) nx) = (a4 (K134_6 m c h4) 0 1 7 8):=by
  refine Tq (Jw m c (pS1 (pB (pS1 c134_6))) (Jw m c (pS1 (pS2 (pB (pS1 c134_6)))) (fun e=>ifB (e 16) ((Jw m c (pS1 (pC1 (pS2 (pS2 (pB (pS1 c134_6)))))) (Z134 m) (Qa 1 (Jw m c c134_7 (a4 h4 0 1 7 8) (Qa 0 (a0 (Zr m c)) nx)) (Qa 0 (a0 (Zr m c)) nx))) e) ((Jw m c c134_7 (a4 h4 0 1 7 8) (Qa 0 (a0 (Zr m c)) nx)) e)) (Qa 1 (Jw m c c134_7 (a4 h4 0 1 7 8) (Qa 0 (a0 (Zr m c)) nx)) (Qa 0 (a0 (Zr m c)) nx))) (Qa 1 (Jw m c c134_7 (a4 h4 0 1 7 8) (Qa 0 (a0 (Zr m c)) nx)) (Qa 0 (a0 (Zr m c)) nx))) (by kernel_rfl) ?_
  rw [K134_7_eq m c h4 ]
  kernel_rfl
noncomputable def K134_5 (m:Nat) (c:Qd) (h4:AV→AV→AV→AV→Kt) (t0 t1 t7 t8 t9:AV):Kt:=
 ifB t9
 ((K134_6 m c h4 t0 t1 t7 t8))
 ((Zr m c))
theorem K134_5_eq (h4:AV→AV→AV→AV→Kt):Jw m c c134_5 (a4 h4 0 1 7 8) (Qa 0 (a0 (Zr m c)) nx) = (a5 (K134_5 m c h4) 0 1 7 8 9):=by
  refine Tq (fun e=>ifB (e 9) ((Jw m c c134_6 (a4 h4 0 1 7 8) (Qa 0 (a0 (Zr m c)) nx)) e) ((a0 (Zr m c)) e)) (by kernel_rfl) ?_
  rw [K134_6_eq m c h4 ]
  kernel_rfl
noncomputable def L134_4_b (m:Nat) (c:Qd) (h4:AV→AV→AV→AV→Kt) (t0 t1 t7 t8:AV):Kt:=
 bnd (Qi (C m) .lss 3 t8 t7) fun v0=>
 K134_5 m c h4 t0 t1 t7 t8 v0
noncomputable def L134_4 (m:Nat) (c:Qd) (n:Nat):AV→AV→AV→AV→Kt:=
 Nat.rec (motive:=fun _=>AV→AV→AV→AV→Kt) (fun t0 t1 t7 t8=>noK) (fun _ ih=>L134_4_b m c ih) n
theorem L134_4_b_eq (h4:AV→AV→AV→AV→Kt):Jw m c c134_4 (a4 h4 0 1 7 8) (Qa 0 (a0 (Zr m c)) nx) = fun e=>L134_4_b m c h4 (e 0) (e 1) (e 7) (e 8):=by
  refine Tq (Jw m c (pS1 c134_4) (Jw m c c134_5 (a4 h4 0 1 7 8) (Qa 0 (a0 (Zr m c)) nx)) (Qa 0 (a0 (Zr m c)) nx)) (by kernel_rfl) ?_
  rw [K134_5_eq m c h4 ]
  kernel_rfl
theorem L134_4_eq (n:Nat):(Qn (fun k=>Jw m c c134_4 k (Qa 0 (a0 (Zr m c)) nx)) n) = (a4 (L134_4 m c n) 0 1 7 8):=by
  induction n with
  | zero=>rfl
  | succ n ih=>
    show Jw m c c134_4 (Qn (fun k=>Jw m c c134_4 k (Qa 0 (a0 (Zr m c)) nx)) n) (Qa 0 (a0 (Zr m c)) nx) = _
    rw [ih,L134_4_b_eq m c (L134_4 m c n)]
    rfl
theorem L134_4_succ (n:Nat):L134_4 m c (n + 1) = L134_4_b m c (L134_4 m c n):=rfl
noncomputable def K134_3 (m:Nat) (c:Qd) (t0 t1 t7 t8:AV):Kt:=
 L134_4 m c m t0 t1 t7 t8
theorem K134_3_eq:Jw m c c134_3 (a0 (Zr m c)) nx = (a4 (K134_3 m c) 0 1 7 8):=by
  refine Tq (Qn (fun k=>Jw m c c134_4 k (Qa 0 (a0 (Zr m c)) nx)) m) (by kernel_rfl) ?_
  rw [L134_4_eq m c m]
  kernel_rfl
noncomputable def K134_1 (m:Nat) (c:Qd) (t0 t1:AV):Kt:=
 bnd (Qv (C m) .len [94] [t0]) fun v0=>
 K134_3 m c t0 t1 v0 (I 0)
theorem K134_1_eq:Jw m c c134_1 (Z134 m) nx = (a2 (K134_1 m c) 0 1):=by
  refine Tq (Jw m c (pS1 (pS1 c134_1)) (Jw m c c134_3 (Jw m c c134_2 (Z134 m) nx) nx) nx) (by kernel_rfl) ?_
  rw [K134_2_eq m c ,K134_3_eq m c ]
  kernel_rfl
noncomputable def K134_0 (m:Nat) (c:Qd) (t0 t1:AV):Kt:=
 K134_1 m c t0 t1
theorem K134_0_eq:Jw m c c134_0 (Z134 m) nx = (a2 (K134_0 m c) 0 1):=by
  refine Tq (Jw m c (pS1 c134_0) (Jw m c c134_1 (Z134 m) nx) nx) (by kernel_rfl) ?_
  rw [K134_1_eq m c ]
  kernel_rfl
theorem F134_eq (t0 t1:AV):Qu (C m) c Tryz.f134 [t0,t1] = K134_0 m c t0 t1:=by
  refine Tq ((Jw m c c134_0 (Z134 m) nx) (Xl [t0,t1])) (by kernel_rfl) ?_
  rw [K134_0_eq m c]
  rfl
noncomputable def c104_0:Code:=(Qw Tryz.f104)
noncomputable def Z104 (m:Nat):=fun (e:Nat→AV)=>Qo (C m) (Xh e Tryz.f104.results.toList)
noncomputable def D104 (m:Nat) (c:Qd) (p:Code) (k:TE→Kt) (x:Nat→TE→Kt):=Q2 p (C m) c k x (Z104 m)
noncomputable def K104_0 (m:Nat) (c:Qd) (t0:AV):Kt:=
 bnd (Z2 97 t0) fun v0=>
 bnd (Qh (C m) 97 v0 0) fun v1=>
 bnd (ldO (C m) 9 v1) fun v2=>
 bnd (Qv (C m) .len [9] [v2]) fun v3=>
 bnd (Qi (C m) .neq 3 v3 (I 37)) fun v4=>
 bnd (gdO (Qc v4 false) (Qh (C m) 97 v0 1)) fun v5=>
 bnd (gdO (Qc v4 false) (ldO (C m) 3 v5)) fun v6=>
 bnd (gdO (Qc v4 false) (Qi (C m) .lss 3 v6 (I (-1099511627776)))) fun v7=>
 bnd (Qm v4 (B true) v7) fun v8=>
 bnd (gdO (Qc v8 false) (Qh (C m) 97 v0 1)) fun v9=>
 bnd (gdO (Qc v8 false) (ldO (C m) 3 v9)) fun v10=>
 bnd (gdO (Qc v8 false) (Qi (C m) .gtr 3 v10 (I 1099511627776))) fun v11=>
 bnd (Qm v8 (B true) v11) fun v12=>
 bnd (gdO (Qc v12 false) (Qh (C m) 97 v0 2)) fun v13=>
 bnd (gdO (Qc v12 false) (ldO (C m) 3 v13)) fun v14=>
 bnd (gdO (Qc v12 false) (Qy (C m) c (fnV 98) [v14])) fun v15=>
 bnd (gdO (Qc v12 false) (unO .not v15)) fun v16=>
 bnd (Qm v12 (B true) v16) fun v17=>
 bnd (gdO (Qc v17 false) (Qh (C m) 97 v0 3)) fun v18=>
 bnd (gdO (Qc v17 false) (ldO (C m) 3 v18)) fun v19=>
 bnd (gdO (Qc v17 false) (Qy (C m) c (fnV 98) [v19])) fun v20=>
 bnd (gdO (Qc v17 false) (unO .not v20)) fun v21=>
 bnd (Qm v17 (B true) v21) fun v22=>
 Qo (C m) [(none,v22)]
theorem K104_0_eq:D104 m c c104_0 (Z104 m) nx = (a1 (K104_0 m c) 0):=by
  refine Tq (D104 m c (pS1 c104_0) (D104 m c (pS1 (pS2 c104_0)) (Z104 m) nx) nx) (by kernel_rfl) ?_
  kernel_rfl
theorem F104_eq (t0:AV):Qu (C m) c Tryz.f104 [t0] = K104_0 m c t0:=by
  refine Tq ((D104 m c c104_0 (Z104 m) nx) (Xl [t0])) (by kernel_rfl) ?_
  rw [K104_0_eq m c]
  rfl
noncomputable def c98_0:Code:=(Qw Tryz.f98)
noncomputable def Z98 (m:Nat):=fun (e:Nat→AV)=>Qo (C m) (Xh e Tryz.f98.results.toList)
noncomputable def D98 (m:Nat) (c:Qd) (p:Code) (k:TE→Kt) (x:Nat→TE→Kt):=Q2 p (C m) c k x (Z98 m)
noncomputable def K98_0 (m:Nat) (c:Qd) (t0:AV):Kt:=
 bnd (Qi (C m) .geq 3 t0 (I 0)) fun v0=>
 bnd (gdO (Qc v0 true) (fun _=>.val t0)) fun v1=>
 bnd (gdO (Qc v0 true) (Qi (C m) .leq 3 v1 (I 1099511627776))) fun v2=>
 bnd (Qm v0 v2 (B false)) fun v3=>
 Qo (C m) [(none,v3)]
theorem K98_0_eq:D98 m c c98_0 (Z98 m) nx = (a1 (K98_0 m c) 0):=by
  refine Tq (D98 m c (pS1 c98_0) (D98 m c (pS1 (pS2 c98_0)) (Z98 m) nx) nx) (by kernel_rfl) ?_
  kernel_rfl
theorem F98_eq (t0:AV):Qu (C m) c Tryz.f98 [t0] = K98_0 m c t0:=by
  refine Tq ((D98 m c c98_0 (Z98 m) nx) (Xl [t0])) (by kernel_rfl) ?_
  rw [K98_0_eq m c]
  rfl
noncomputable def c127_0:Code:=(Qw Tryz.f127)
noncomputable def Z127 (m:Nat):=fun (e:Nat→AV)=>Qo (C m) (Xh e Tryz.f127.results.toList)
noncomputable def D127 (m:Nat) (c:Qd) (p:Code) (k:TE→Kt) (x:Nat→TE→Kt):=Q2 p (C m) c k x (Z127 m)
noncomputable def K127_0 (m:Nat) (c:Qd) (t0 t1:AV):Kt:=
 bnd (Qy (C m) c (fnV 169) [t0,t1]) fun v0=>
 bnd (Qi (C m) .geq 3 v0 (I 0)) fun v1=>
 Qo (C m) [(none,v1)]
theorem K127_0_eq:D127 m c c127_0 (Z127 m) nx = (a2 (K127_0 m c) 0 1):=by
  refine Tq (D127 m c (pS1 c127_0) (D127 m c (pS1 (pS2 c127_0)) (Z127 m) nx) nx) (by kernel_rfl) ?_
  kernel_rfl
theorem F127_eq (t0 t1:AV):Qu (C m) c Tryz.f127 [t0,t1] = K127_0 m c t0 t1:=by
  refine Tq ((D127 m c c127_0 (Z127 m) nx) (Xl [t0,t1])) (by kernel_rfl) ?_
  rw [K127_0_eq m c]
  rfl
noncomputable def c169_0:Code:=(Qw Tryz.f169)
noncomputable def c169_1:Code:=(pS2 c169_0)
noncomputable def c169_2:Code:=(pS2 c169_1)
noncomputable def c169_3:Code:=(pS2 (pS1 c169_1))
noncomputable def c169_4:Code:=(pL (pB c169_3))
noncomputable def c169_5:Code:=(pS2 c169_4)
noncomputable def c169_6:Code:=(pS2 c169_5)
noncomputable def c169_7:Code:=(pS2 c169_6)
noncomputable def Z169 (m:Nat):=fun (e:Nat→AV)=>Qo (C m) (Xh e Tryz.f169.results.toList)
noncomputable def Jx (m:Nat) (c:Qd) (p:Code) (k:TE→Kt) (x:Nat→TE→Kt):=Q2 p (C m) c k x (Z169 m)
noncomputable def Zs (m:Nat) (c:Qd):Kt:=
 Qo (C m) [(none,(I (-1)))]
theorem K169_2_eq:Jx m c c169_2 (Z169 m) nx = (a0 (Zs m c)):=by
  refine Tq (Jx m c (pS1 c169_2) (Z169 m) nx) (by kernel_rfl) ?_
  kernel_rfl
noncomputable def K169_7 (m:Nat) (c:Qd) (h4:AV→AV→AV→AV→Kt) (t0 t1 t7 t8:AV):Kt:=
 bnd (Qi (C m) .add 3 t8 (I 1)) fun v0=>
 h4 t0 t1 t7 v0
theorem K169_7_eq (h4:AV→AV→AV→AV→Kt):Jx m c c169_7 (a4 h4 0 1 7 8) (Qa 0 (a0 (Zs m c)) nx) = (a4 (K169_7 m c h4) 0 1 7 8):=by
  kernel_rfl
noncomputable def K169_6 (m:Nat) (c:Qd) (h4:AV→AV→AV→AV→Kt) (t0 t1 t7 t8:AV):Kt:=
 bnd (Q9 (C m) 35 t0 t8) fun v0=>
 bnd (ldO (C m) 94 v0) fun v1=>
 bnd (Qy (C m) c t1 [v1]) fun v2=>
 ifB v2
 ((Qo (C m) [(none,t8)]))
 ((K169_7 m c h4 t0 t1 t7 t8))
theorem K169_6_eq (h4:AV→AV→AV→AV→Kt):Jx m c c169_6 (a4 h4 0 1 7 8) (Qa 0 (a0 (Zs m c)) nx) = (a4 (K169_6 m c h4) 0 1 7 8):=by
  refine Tq (Jx m c (pS1 (pB (pS1 c169_6))) (Jx m c (pS1 (pS2 (pB (pS1 c169_6)))) (fun e=>ifB (e 16) ((Jx m c (pS1 (pC1 (pS2 (pS2 (pB (pS1 c169_6)))))) (Z169 m) (Qa 1 (Jx m c c169_7 (a4 h4 0 1 7 8) (Qa 0 (a0 (Zs m c)) nx)) (Qa 0 (a0 (Zs m c)) nx))) e) ((Jx m c c169_7 (a4 h4 0 1 7 8) (Qa 0 (a0 (Zs m c)) nx)) e)) (Qa 1 (Jx m c c169_7 (a4 h4 0 1 7 8) (Qa 0 (a0 (Zs m c)) nx)) (Qa 0 (a0 (Zs m c)) nx))) (Qa 1 (Jx m c c169_7 (a4 h4 0 1 7 8) (Qa 0 (a0 (Zs m c)) nx)) (Qa 0 (a0 (Zs m c)) nx))) (by kernel_rfl) ?_
  rw [K169_7_eq m c h4 ]
  kernel_rfl
noncomputable def K169_5 (m:Nat) (c:Qd) (h4:AV→AV→AV→AV→Kt) (t0 t1 t7 t8 t9:AV):Kt:=
 ifB t9
 ((K169_6 m c h4 t0 t1 t7 t8))
 ((Zs m c))
theorem K169_5_eq (h4:AV→AV→AV→AV→Kt):Jx m c c169_5 (a4 h4 0 1 7 8) (Qa 0 (a0 (Zs m c)) nx) = (a5 (K169_5 m c h4) 0 1 7 8 9):=by
  refine Tq (fun e=>ifB (e 9) ((Jx m c c169_6 (a4 h4 0 1 7 8) (Qa 0 (a0 (Zs m c)) nx)) e) ((a0 (Zs m c)) e)) (by kernel_rfl) ?_
  rw [K169_6_eq m c h4 ]
  kernel_rfl
noncomputable def L169_4_b (m:Nat) (c:Qd) (h4:AV→AV→AV→AV→Kt) (t0 t1 t7 t8:AV):Kt:=
 bnd (Qi (C m) .lss 3 t8 t7) fun v0=>
 K169_5 m c h4 t0 t1 t7 t8 v0
noncomputable def L169_4 (m:Nat) (c:Qd) (n:Nat):AV→AV→AV→AV→Kt:=
 Nat.rec (motive:=fun _=>AV→AV→AV→AV→Kt) (fun t0 t1 t7 t8=>noK) (fun _ ih=>L169_4_b m c ih) n
theorem L169_4_b_eq (h4:AV→AV→AV→AV→Kt):Jx m c c169_4 (a4 h4 0 1 7 8) (Qa 0 (a0 (Zs m c)) nx) = fun e=>L169_4_b m c h4 (e 0) (e 1) (e 7) (e 8):=by
  refine Tq (Jx m c (pS1 c169_4) (Jx m c c169_5 (a4 h4 0 1 7 8) (Qa 0 (a0 (Zs m c)) nx)) (Qa 0 (a0 (Zs m c)) nx)) (by kernel_rfl) ?_
  rw [K169_5_eq m c h4 ]
  kernel_rfl
theorem L169_4_eq (n:Nat):(Qn (fun k=>Jx m c c169_4 k (Qa 0 (a0 (Zs m c)) nx)) n) = (a4 (L169_4 m c n) 0 1 7 8):=by
  induction n with
  | zero=>rfl
  | succ n ih=>
    show Jx m c c169_4 (Qn (fun k=>Jx m c c169_4 k (Qa 0 (a0 (Zs m c)) nx)) n) (Qa 0 (a0 (Zs m c)) nx) = _
    rw [ih,L169_4_b_eq m c (L169_4 m c n)]
    rfl
theorem L169_4_succ (n:Nat):L169_4 m c (n + 1) = L169_4_b m c (L169_4 m c n):=rfl
noncomputable def K169_3 (m:Nat) (c:Qd) (t0 t1 t7 t8:AV):Kt:=
 L169_4 m c m t0 t1 t7 t8
theorem K169_3_eq:Jx m c c169_3 (a0 (Zs m c)) nx = (a4 (K169_3 m c) 0 1 7 8):=by
  refine Tq (Qn (fun k=>Jx m c c169_4 k (Qa 0 (a0 (Zs m c)) nx)) m) (by kernel_rfl) ?_
  rw [L169_4_eq m c m]
  kernel_rfl
noncomputable def K169_1 (m:Nat) (c:Qd) (t0 t1:AV):Kt:=
 bnd (Qv (C m) .len [35] [t0]) fun v0=>
 K169_3 m c t0 t1 v0 (I 0)
theorem K169_1_eq:Jx m c c169_1 (Z169 m) nx = (a2 (K169_1 m c) 0 1):=by
  refine Tq (Jx m c (pS1 (pS1 c169_1)) (Jx m c c169_3 (Jx m c c169_2 (Z169 m) nx) nx) nx) (by kernel_rfl) ?_
  rw [K169_2_eq m c ,K169_3_eq m c ]
  kernel_rfl
noncomputable def K169_0 (m:Nat) (c:Qd) (t0 t1:AV):Kt:=
 K169_1 m c t0 t1
theorem K169_0_eq:Jx m c c169_0 (Z169 m) nx = (a2 (K169_0 m c) 0 1):=by
  refine Tq (Jx m c (pS1 c169_0) (Jx m c c169_1 (Z169 m) nx) nx) (by kernel_rfl) ?_
  rw [K169_1_eq m c ]
  kernel_rfl
theorem F169_eq (t0 t1:AV):Qu (C m) c Tryz.f169 [t0,t1] = K169_0 m c t0 t1:=by
  refine Tq ((Jx m c c169_0 (Z169 m) nx) (Xl [t0,t1])) (by kernel_rfl) ?_
  rw [K169_0_eq m c]
  rfl
end Go.Proofs.YtjfgdcegpgoobaaGreatDoor
