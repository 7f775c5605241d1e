/- Functions of the program as plain functions over the interpreter's words, and the theorems that they are what the interpreter makes of the code. -/
import Derived.Test.YtjfgdcegpgoobaaGreatDoorCx
set_option linter.unusedVariables false
namespace Go.Proofs.YtjfgdcegpgoobaaGreatDoor
open Go.Run
set_option maxRecDepth 100000
open Go
variable (m:Nat) (c:Qd)
noncomputable def c71_0:Code:=(Qw Tryz.f71)
noncomputable def c71_1:Code:=(pS2 c71_0)
noncomputable def c71_2:Code:=(pS2 c71_1)
noncomputable def c71_3:Code:=(pS2 c71_2)
noncomputable def c71_4:Code:=(pS2 c71_3)
noncomputable def c71_5:Code:=(pS2 (pS1 c71_3))
noncomputable def c71_6:Code:=(pL (pB c71_5))
noncomputable def c71_7:Code:=(pS2 c71_6)
noncomputable def c71_8:Code:=(pS2 c71_7)
noncomputable def c71_9:Code:=(pS2 c71_8)
noncomputable def Z71 (m:Nat):=fun (e:Nat→AV)=>Qo (C m) (Xh e Tryz.f71.results.toList)
noncomputable def D71 (m:Nat) (c:Qd) (p:Code) (k:TE→Kt) (x:Nat→TE→Kt):=Q2 p (C m) c k x (Z71 m)
noncomputable def V0 (m:Nat) (c:Qd):Kt:=
 Qo (C m) [(none,(B true))]
theorem K71_4_eq:D71 m c c71_4 (Z71 m) nx = (a0 (V0 m c)):=by
  refine Tq (D71 m c (pS1 c71_4) (Z71 m) nx) (by kernel_rfl) ?_
  kernel_rfl
noncomputable def K71_9 (m:Nat) (c:Qd) (h6:AV→AV→AV→AV→AV→Kt) (t1 t3 t33 t34 t35:AV):Kt:=
 bnd (Qi (C m) .add 3 t35 (I 1)) fun v0=>
 h6 t1 t3 t33 t34 v0
theorem K71_9_eq (h6:AV→AV→AV→AV→AV→Kt):D71 m c c71_9 (a5 h6 1 3 33 34 35) (Qa 0 (a0 (V0 m c)) nx) = (a5 (K71_9 m c h6) 1 3 33 34 35):=by
  kernel_rfl
noncomputable def K71_8 (m:Nat) (c:Qd) (h6:AV→AV→AV→AV→AV→Kt) (t1 t3 t33 t34 t35:AV):Kt:=
 bnd (Q9 (C m) 38 t33 t35) fun v0=>
 bnd (ldO (C m) 103 v0) fun v1=>
 bnd (Xe (C m) 103) fun v2=>
 bnd (stO (C m) 103 v2 v1) fun _=>
 bnd (Qh (C m) 103 v2 0) fun v3=>
 bnd (ldO (C m) 100 v3) fun v4=>
 bnd (Xe (C m) 100) fun v5=>
 bnd (stO (C m) 100 v5 v4) fun _=>
 dIn fun sv6=>
 Qr (ldO (C m) 100 v5) fun v7=>
 Xn (Qy (C m) c (fnV 129) [v7]) fun v8 sv8=>
 Qk (unO .not v8) fun v9=>
 Qk (gdO (Qc v9 false) (Qh (C m) 40 t1 0)) fun v10=>
 Qr (gdO (Qc v9 false) (ldO (C m) 22 v10)) fun v11=>
 Qk (gdO (Qc v9 false) (fun _=>.val t35)) fun v12=>
 Qk (gdO (Qc v9 false) (Qi (C m) .add 3 v12 (I 1))) fun v13=>
 Xn (gdO (Qc v9 false) (Qy (C m) c (fnV 12) [v11,v13])) fun v14 sv14=>
 Qk (gdO (Qc v9 false) (Qh (C m) 100 v5 0)) fun v15=>
 Ze ((Qc v9 false)) (ldO (C m) 22 v15) (fun v16=>(Xk (ldO (C m) 22 v15) v16 sv14 && (Xk (ldO (C m) 22 v15) v16 sv8 && true))) fun v17=>
 Qk (gdO (Qc v9 false) (Qi (C m) .neq 22 v17 v14)) fun v18=>
 Qk (Qm v9 (B true) v18) fun v19=>
 Qk (gdO (Qc v19 false) (Qh (C m) 100 v5 1)) fun v20=>
 Qr (gdO (Qc v19 false) (ldO (C m) 27 v20)) fun v21=>
 Qr (gdO (Qc v19 false) (Qv (C m) .len [27] [v21])) fun v22=>
 Qk (gdO (Qc v19 false) (Qh (C m) 100 t3 1)) fun v23=>
 Qr (gdO (Qc v19 false) (ldO (C m) 27 v23)) fun v24=>
 Qr (gdO (Qc v19 false) (Qv (C m) .len [27] [v24])) fun v25=>
 Qk (gdO (Qc v19 false) (Qi (C m) .neq 3 v22 v25)) fun v26=>
 Qk (Qm v19 (B true) v26) fun v27=>
 Qk (gdO (Qc v27 false) (Qh (C m) 100 v5 1)) fun v28=>
 Qr (gdO (Qc v27 false) (ldO (C m) 27 v28)) fun v29=>
 Qk (gdO (Qc v27 false) (Q9 (C m) 27 v29 (I 0))) fun v30=>
 Qr (gdO (Qc v27 false) (ldO (C m) 25 v30)) fun v31=>
 Qr (gdO (Qc v27 false) (Qv (C m) .len [25] [v31])) fun v32=>
 Qk (gdO (Qc v27 false) (Qh (C m) 100 t3 1)) fun v33=>
 Qr (gdO (Qc v27 false) (ldO (C m) 27 v33)) fun v34=>
 Qk (gdO (Qc v27 false) (Q9 (C m) 27 v34 (I 0))) fun v35=>
 Qr (gdO (Qc v27 false) (ldO (C m) 25 v35)) fun v36=>
 Qr (gdO (Qc v27 false) (Qv (C m) .len [25] [v36])) fun v37=>
 Qk (gdO (Qc v27 false) (Qi (C m) .neq 3 v32 v37)) fun v38=>
 Qk (Qm v27 (B true) v38) fun v39=>
 Qk (gdO (Qc v39 false) (Qh (C m) 103 v2 1)) fun v40=>
 Qr (gdO (Qc v39 false) (ldO (C m) 101 v40)) fun v41=>
 Qr (gdO (Qc v39 false) (Qv (C m) .len [101] [v41])) fun v42=>
 Qk (gdO (Qc v39 false) (Qh (C m) 40 t1 1)) fun v43=>
 Qr (gdO (Qc v39 false) (ldO (C m) 3 v43)) fun v44=>
 Qk (gdO (Qc v39 false) (Qi (C m) .gtr 3 v42 v44)) fun v45=>
 Qk (Qm v39 (B true) v45) fun v46=>
 Qk (gdO (Qc v46 false) (Qh (C m) 103 v2 1)) fun v47=>
 Qr (gdO (Qc v46 false) (ldO (C m) 101 v47)) fun v48=>
 Xn (gdO (Qc v46 false) (Qy (C m) c (fnV 130) [v48])) fun v49 sv49=>
 Qk (gdO (Qc v46 false) (unO .not v49)) fun v50=>
 Qk (Qm v46 (B true) v50) fun v51=>
 ifB v51
 ((Qo (C m) [(none,(B false))]))
 ((K71_9 m c h6 t1 t3 t33 t34 t35))
theorem K71_8_eq (h6:AV→AV→AV→AV→AV→Kt):D71 m c c71_8 (a5 h6 1 3 33 34 35) (Qa 0 (a0 (V0 m c)) nx) = (a5 (K71_8 m c h6) 1 3 33 34 35):=by
  refine Tq (D71 m c (pS1 (pB (pS1 c71_8))) (D71 m c (pS1 (pS2 (pB (pS1 c71_8)))) (D71 m c (pS1 (pS2 (pS2 (pB (pS1 c71_8))))) (fun e=>ifB (e 90) ((D71 m c (pS1 (pC1 (pS2 (pS2 (pS2 (pB (pS1 c71_8))))))) (Z71 m) (Qa 1 (D71 m c c71_9 (a5 h6 1 3 33 34 35) (Qa 0 (a0 (V0 m c)) nx)) (Qa 0 (a0 (V0 m c)) nx))) e) ((D71 m c c71_9 (a5 h6 1 3 33 34 35) (Qa 0 (a0 (V0 m c)) nx)) e)) (Qa 1 (D71 m c c71_9 (a5 h6 1 3 33 34 35) (Qa 0 (a0 (V0 m c)) nx)) (Qa 0 (a0 (V0 m c)) nx))) (Qa 1 (D71 m c c71_9 (a5 h6 1 3 33 34 35) (Qa 0 (a0 (V0 m c)) nx)) (Qa 0 (a0 (V0 m c)) nx))) (Qa 1 (D71 m c c71_9 (a5 h6 1 3 33 34 35) (Qa 0 (a0 (V0 m c)) nx)) (Qa 0 (a0 (V0 m c)) nx))) (by kernel_rfl) ?_
  rw [K71_9_eq m c h6 ]
  kernel_rfl
noncomputable def K71_7 (m:Nat) (c:Qd) (h6:AV→AV→AV→AV→AV→Kt) (t1 t3 t33 t34 t35 t36:AV):Kt:=
 ifB t36
 ((K71_8 m c h6 t1 t3 t33 t34 t35))
 ((V0 m c))
theorem K71_7_eq (h6:AV→AV→AV→AV→AV→Kt):D71 m c c71_7 (a5 h6 1 3 33 34 35) (Qa 0 (a0 (V0 m c)) nx) = (a6 (K71_7 m c h6) 1 3 33 34 35 36):=by
  refine Tq (fun e=>ifB (e 36) ((D71 m c c71_8 (a5 h6 1 3 33 34 35) (Qa 0 (a0 (V0 m c)) nx)) e) ((a0 (V0 m c)) e)) (by kernel_rfl) ?_
  rw [K71_8_eq m c h6 ]
  kernel_rfl
noncomputable def L71_6_b (m:Nat) (c:Qd) (h6:AV→AV→AV→AV→AV→Kt) (t1 t3 t33 t34 t35:AV):Kt:=
 bnd (Qi (C m) .lss 3 t35 t34) fun v0=>
 K71_7 m c h6 t1 t3 t33 t34 t35 v0
noncomputable def L71_6 (m:Nat) (c:Qd) (n:Nat):AV→AV→AV→AV→AV→Kt:=
 Nat.rec (motive:=fun _=>AV→AV→AV→AV→AV→Kt) (fun t1 t3 t33 t34 t35=>noK) (fun _ ih=>L71_6_b m c ih) n
theorem L71_6_b_eq (h6:AV→AV→AV→AV→AV→Kt):D71 m c c71_6 (a5 h6 1 3 33 34 35) (Qa 0 (a0 (V0 m c)) nx) = fun e=>L71_6_b m c h6 (e 1) (e 3) (e 33) (e 34) (e 35):=by
  refine Tq (D71 m c (pS1 c71_6) (D71 m c c71_7 (a5 h6 1 3 33 34 35) (Qa 0 (a0 (V0 m c)) nx)) (Qa 0 (a0 (V0 m c)) nx)) (by kernel_rfl) ?_
  rw [K71_7_eq m c h6 ]
  kernel_rfl
theorem L71_6_eq (n:Nat):(Qn (fun k=>D71 m c c71_6 k (Qa 0 (a0 (V0 m c)) nx)) n) = (a5 (L71_6 m c n) 1 3 33 34 35):=by
  induction n with
  | zero=>rfl
  | succ n ih=>
    show D71 m c c71_6 (Qn (fun k=>D71 m c c71_6 k (Qa 0 (a0 (V0 m c)) nx)) n) (Qa 0 (a0 (V0 m c)) nx) = _
    rw [ih,L71_6_b_eq m c (L71_6 m c n)]
    rfl
theorem L71_6_succ (n:Nat):L71_6 m c (n + 1) = L71_6_b m c (L71_6 m c n):=rfl
noncomputable def K71_5 (m:Nat) (c:Qd) (t1 t3 t33 t34 t35:AV):Kt:=
 L71_6 m c m t1 t3 t33 t34 t35
theorem K71_5_eq:D71 m c c71_5 (a0 (V0 m c)) nx = (a5 (K71_5 m c) 1 3 33 34 35):=by
  refine Tq (Qn (fun k=>D71 m c c71_6 k (Qa 0 (a0 (V0 m c)) nx)) m) (by kernel_rfl) ?_
  rw [L71_6_eq m c m]
  kernel_rfl
noncomputable def K71_3 (m:Nat) (c:Qd) (t1 t3:AV):Kt:=
 bnd (Qh (C m) 40 t1 2) fun v0=>
 bnd (ldO (C m) 38 v0) fun v1=>
 bnd (Qv (C m) .len [38] [v1]) fun v2=>
 K71_5 m c t1 t3 v1 v2 (I 0)
theorem K71_3_eq:D71 m c c71_3 (Z71 m) nx = (a2 (K71_3 m c) 1 3):=by
  refine Tq (D71 m c (pS1 (pS1 c71_3)) (D71 m c c71_5 (D71 m c c71_4 (Z71 m) nx) nx) nx) (by kernel_rfl) ?_
  rw [K71_4_eq m c ,K71_5_eq m c ]
  kernel_rfl
noncomputable def K71_2 (m:Nat) (c:Qd) (t1:AV):Kt:=
 bnd (Qh (C m) 40 t1 2) fun v0=>
 bnd (ldO (C m) 38 v0) fun v1=>
 bnd (Q9 (C m) 38 v1 (I 0)) fun v2=>
 bnd (Qh (C m) 103 v2 0) fun v3=>
 bnd (ldO (C m) 100 v3) fun v4=>
 bnd (Xe (C m) 100) fun v5=>
 bnd (stO (C m) 100 v5 v4) fun _=>
 K71_3 m c t1 v5
theorem K71_2_eq:D71 m c c71_2 (Z71 m) nx = (a1 (K71_2 m c) 1):=by
  refine Tq (D71 m c (pS1 c71_2) (D71 m c c71_3 (Z71 m) nx) nx) (by kernel_rfl) ?_
  rw [K71_3_eq m c ]
  kernel_rfl
noncomputable def K71_1 (m:Nat) (c:Qd) (t1:AV):Kt:=
 bnd (Qh (C m) 40 t1 1) fun v0=>
 bnd (ldO (C m) 3 v0) fun v1=>
 bnd (Qi (C m) .lss 3 v1 (I 1)) fun v2=>
 bnd (gdO (Qc v2 false) (Qh (C m) 40 t1 1)) fun v3=>
 bnd (gdO (Qc v2 false) (ldO (C m) 3 v3)) fun v4=>
 bnd (gdO (Qc v2 false) (Qi (C m) .gtr 3 v4 (I 64))) fun v5=>
 bnd (Qm v2 (B true) v5) fun v6=>
 bnd (gdO (Qc v6 false) (Qh (C m) 40 t1 2)) fun v7=>
 bnd (gdO (Qc v6 false) (ldO (C m) 38 v7)) fun v8=>
 bnd (gdO (Qc v6 false) (Qv (C m) .len [38] [v8])) fun v9=>
 bnd (gdO (Qc v6 false) (Qi (C m) .lss 3 v9 (I 1))) fun v10=>
 bnd (Qm v6 (B true) v10) fun v11=>
 bnd (gdO (Qc v11 false) (Qh (C m) 40 t1 2)) fun v12=>
 bnd (gdO (Qc v11 false) (ldO (C m) 38 v12)) fun v13=>
 bnd (gdO (Qc v11 false) (Qv (C m) .len [38] [v13])) fun v14=>
 bnd (gdO (Qc v11 false) (Qi (C m) .gtr 3 v14 (I 16))) fun v15=>
 bnd (Qm v11 (B true) v15) fun v16=>
 ifB v16
 ((Qo (C m) [(none,(B false))]))
 ((K71_2 m c t1))
theorem K71_1_eq:D71 m c c71_1 (Z71 m) nx = (a1 (K71_1 m c) 1):=by
  refine Tq (D71 m c (pS1 (pS1 c71_1)) (fun e=>ifB (e 26) ((D71 m c (pS1 (pC1 (pS2 (pS1 c71_1)))) (Z71 m) nx) e) ((D71 m c c71_2 (Z71 m) nx) e)) nx) (by kernel_rfl) ?_
  rw [K71_2_eq m c ]
  kernel_rfl
noncomputable def K71_0 (m:Nat) (c:Qd) (t0:AV):Kt:=
 bnd (Z2 40 t0) fun v0=>
 K71_1 m c v0
theorem K71_0_eq:D71 m c c71_0 (Z71 m) nx = (a1 (K71_0 m c) 0):=by
  refine Tq (D71 m c (pS1 c71_0) (D71 m c c71_1 (Z71 m) nx) nx) (by kernel_rfl) ?_
  rw [K71_1_eq m c ]
  kernel_rfl
theorem F71_eq (t0:AV):Qu (C m) c Tryz.f71 [t0] = K71_0 m c t0:=by
  refine Tq ((D71 m c c71_0 (Z71 m) nx) (Xl [t0])) (by kernel_rfl) ?_
  rw [K71_0_eq m c]
  rfl
noncomputable def c129_0:Code:=(Qw Tryz.f129)
noncomputable def Z129 (m:Nat):=fun (e:Nat→AV)=>Qo (C m) (Xh e Tryz.f129.results.toList)
noncomputable def D129 (m:Nat) (c:Qd) (p:Code) (k:TE→Kt) (x:Nat→TE→Kt):=Q2 p (C m) c k x (Z129 m)
noncomputable def K129_0 (m:Nat) (c:Qd) (t0:AV):Kt:=
 bnd (Z2 100 t0) fun v0=>
 bnd (Qh (C m) 100 v0 1) fun v1=>
 bnd (ldO (C m) 27 v1) fun v2=>
 bnd (Qv (C m) .len [27] [v2]) fun v3=>
 bnd (Qi (C m) .gtr 3 v3 (I 7)) fun v4=>
 bnd (gdO (Qc v4 false) (Qh (C m) 100 v0 1)) fun v5=>
 bnd (gdO (Qc v4 false) (ldO (C m) 27 v5)) fun v6=>
 bnd (gdO (Qc v4 false) (Qv (C m) .len [27] [v6])) fun v7=>
 bnd (gdO (Qc v4 false) (Qi (C m) .rem 3 v7 (I 2))) fun v8=>
 bnd (gdO (Qc v4 false) (Qi (C m) .eql 3 v8 (I 0))) fun v9=>
 bnd (Qm v4 (B true) v9) fun v10=>
 ifB v10
 ((Qo (C m) [(none,(B false))]))
 ((bnd (Qh (C m) 100 v0 1) fun v11=>
 bnd (ldO (C m) 27 v11) fun v12=>
 bnd (funO (.func 171) true [v0]) fun v13=>
 bnd (Qy (C m) c (fnV 170) [v12,v13]) fun v14=>
 bnd (unO .not v14) fun v15=>
 Qo (C m) [(none,v15)]))
theorem K129_0_eq:D129 m c c129_0 (Z129 m) nx = (a1 (K129_0 m c) 0):=by
  refine Tq (D129 m c (pS1 c129_0) (D129 m c (pS1 (pS1 (pS2 c129_0))) (fun e=>ifB (e 13) ((D129 m c (pS1 (pC1 (pS2 (pS1 (pS2 c129_0))))) (Z129 m) nx) e) ((D129 m c (pS1 (pS2 (pS2 c129_0))) (Z129 m) nx) e)) nx) nx) (by kernel_rfl) ?_
  kernel_rfl
theorem F129_eq (t0:AV):Qu (C m) c Tryz.f129 [t0] = K129_0 m c t0:=by
  refine Tq ((D129 m c c129_0 (Z129 m) nx) (Xl [t0])) (by kernel_rfl) ?_
  rw [K129_0_eq m c]
  rfl
noncomputable def c171_0:Code:=(Qw Tryz.f171)
noncomputable def Z171 (m:Nat):=fun (e:Nat→AV)=>Qo (C m) (Xh e Tryz.f171.results.toList)
noncomputable def D171 (m:Nat) (c:Qd) (p:Code) (k:TE→Kt) (x:Nat→TE→Kt):=Q2 p (C m) c k x (Z171 m)
noncomputable def K171_0 (m:Nat) (c:Qd) (t0 t1:AV):Kt:=
 bnd (Qv (C m) .len [25] [t0]) fun v0=>
 bnd (Qi (C m) .lss 3 v0 (I 1)) fun v1=>
 bnd (gdO (Qc v1 false) (fun _=>.val t0)) fun v2=>
 bnd (gdO (Qc v1 false) (Qv (C m) .len [25] [v2])) fun v3=>
 bnd (gdO (Qc v1 false) (Qi (C m) .gtr 3 v3 (I 256))) fun v4=>
 bnd (Qm v1 (B true) v4) fun v5=>
 bnd (gdO (Qc v5 false) (fun _=>.val t0)) fun v6=>
 bnd (gdO (Qc v5 false) (Qv (C m) .len [25] [v6])) fun v7=>
 bnd (gdO (Qc v5 false) (Qh (C m) 100 t1 1)) fun v8=>
 bnd (gdO (Qc v5 false) (ldO (C m) 27 v8)) fun v9=>
 bnd (gdO (Qc v5 false) (Q9 (C m) 27 v9 (I 0))) fun v10=>
 bnd (gdO (Qc v5 false) (ldO (C m) 25 v10)) fun v11=>
 bnd (gdO (Qc v5 false) (Qv (C m) .len [25] [v11])) fun v12=>
 bnd (gdO (Qc v5 false) (Qi (C m) .neq 3 v7 v12)) fun v13=>
 bnd (Qm v5 (B true) v13) fun v14=>
 bnd (gdO (Qc v14 false) (fun _=>.val t0)) fun v15=>
 bnd (gdO (Qc v14 false) (Qy (C m) c (fnV 27) [v15,(fnV 172)])) fun v16=>
 bnd (Qm v14 (B true) v16) fun v17=>
 Qo (C m) [(none,v17)]
theorem K171_0_eq:D171 m c c171_0 (Z171 m) nx = (a2 (K171_0 m c) 0 1):=by
  refine Tq (D171 m c (pS1 c171_0) (D171 m c (pS1 (pS2 c171_0)) (Z171 m) nx) nx) (by kernel_rfl) ?_
  kernel_rfl
theorem F171_eq (t0 t1:AV):Qu (C m) c Tryz.f171 [t0,t1] = K171_0 m c t0 t1:=by
  refine Tq ((D171 m c c171_0 (Z171 m) nx) (Xl [t0,t1])) (by kernel_rfl) ?_
  rw [K171_0_eq m c]
  rfl
noncomputable def c172_0:Code:=(Qw Tryz.f172)
noncomputable def Z172 (m:Nat):=fun (e:Nat→AV)=>Qo (C m) (Xh e Tryz.f172.results.toList)
noncomputable def D172 (m:Nat) (c:Qd) (p:Code) (k:TE→Kt) (x:Nat→TE→Kt):=Q2 p (C m) c k x (Z172 m)
noncomputable def K172_0 (m:Nat) (c:Qd) (t0:AV):Kt:=
 bnd (Qy (C m) c (fnV 151) [t0]) fun v0=>
 bnd (unO .not v0) fun v1=>
 Qo (C m) [(none,v1)]
theorem K172_0_eq:D172 m c c172_0 (Z172 m) nx = (a1 (K172_0 m c) 0):=by
  refine Tq (D172 m c (pS1 c172_0) (D172 m c (pS1 (pS2 c172_0)) (Z172 m) nx) nx) (by kernel_rfl) ?_
  kernel_rfl
theorem F172_eq (t0:AV):Qu (C m) c Tryz.f172 [t0] = K172_0 m c t0:=by
  refine Tq ((D172 m c c172_0 (Z172 m) nx) (Xl [t0])) (by kernel_rfl) ?_
  rw [K172_0_eq m c]
  rfl
noncomputable def c151_0:Code:=(Qw Tryz.f151)
noncomputable def Z151 (m:Nat):=fun (e:Nat→AV)=>Qo (C m) (Xh e Tryz.f151.results.toList)
noncomputable def D151 (m:Nat) (c:Qd) (p:Code) (k:TE→Kt) (x:Nat→TE→Kt):=Q2 p (C m) c k x (Z151 m)
noncomputable def K151_0 (m:Nat) (c:Qd) (t0:AV):Kt:=
 bnd (Qi (C m) .geq 3 t0 (I (-1099511627776))) fun v0=>
 bnd (gdO (Qc v0 true) (fun _=>.val t0)) fun v1=>
 bnd (gdO (Qc v0 true) (Qi (C m) .leq 3 v1 (I 1099511627776))) fun v2=>
 bnd (Qm v0 v2 (B false)) fun v3=>
 Qo (C m) [(none,v3)]
theorem K151_0_eq:D151 m c c151_0 (Z151 m) nx = (a1 (K151_0 m c) 0):=by
  refine Tq (D151 m c (pS1 c151_0) (D151 m c (pS1 (pS2 c151_0)) (Z151 m) nx) nx) (by kernel_rfl) ?_
  kernel_rfl
theorem F151_eq (t0:AV):Qu (C m) c Tryz.f151 [t0] = K151_0 m c t0:=by
  refine Tq ((D151 m c c151_0 (Z151 m) nx) (Xl [t0])) (by kernel_rfl) ?_
  rw [K151_0_eq m c]
  rfl
noncomputable def c170_0:Code:=(Qw Tryz.f170)
noncomputable def Z170 (m:Nat):=fun (e:Nat→AV)=>Qo (C m) (Xh e Tryz.f170.results.toList)
noncomputable def D170 (m:Nat) (c:Qd) (p:Code) (k:TE→Kt) (x:Nat→TE→Kt):=Q2 p (C m) c k x (Z170 m)
noncomputable def K170_0 (m:Nat) (c:Qd) (t0 t1:AV):Kt:=
 bnd (Qy (C m) c (fnV 196) [t0,t1]) fun v0=>
 bnd (Qi (C m) .geq 3 v0 (I 0)) fun v1=>
 Qo (C m) [(none,v1)]
theorem K170_0_eq:D170 m c c170_0 (Z170 m) nx = (a2 (K170_0 m c) 0 1):=by
  refine Tq (D170 m c (pS1 c170_0) (D170 m c (pS1 (pS2 c170_0)) (Z170 m) nx) nx) (by kernel_rfl) ?_
  kernel_rfl
theorem F170_eq (t0 t1:AV):Qu (C m) c Tryz.f170 [t0,t1] = K170_0 m c t0 t1:=by
  refine Tq ((D170 m c c170_0 (Z170 m) nx) (Xl [t0,t1])) (by kernel_rfl) ?_
  rw [K170_0_eq m c]
  rfl
noncomputable def c196_0:Code:=(Qw Tryz.f196)
noncomputable def c196_1:Code:=(pS2 c196_0)
noncomputable def c196_2:Code:=(pS2 c196_1)
noncomputable def c196_3:Code:=(pS2 (pS1 c196_1))
noncomputable def c196_4:Code:=(pL (pB c196_3))
noncomputable def c196_5:Code:=(pS2 c196_4)
noncomputable def c196_6:Code:=(pS2 c196_5)
noncomputable def c196_7:Code:=(pS2 c196_6)
noncomputable def Z196 (m:Nat):=fun (e:Nat→AV)=>Qo (C m) (Xh e Tryz.f196.results.toList)
noncomputable def Jy (m:Nat) (c:Qd) (p:Code) (k:TE→Kt) (x:Nat→TE→Kt):=Q2 p (C m) c k x (Z196 m)
noncomputable def Zt (m:Nat) (c:Qd):Kt:=
 Qo (C m) [(none,(I (-1)))]
theorem K196_2_eq:Jy m c c196_2 (Z196 m) nx = (a0 (Zt m c)):=by
  refine Tq (Jy m c (pS1 c196_2) (Z196 m) nx) (by kernel_rfl) ?_
  kernel_rfl
noncomputable def K196_7 (m:Nat) (c:Qd) (h4:AV→AV→AV→AV→Kt) (t0 t1 t7 t8:AV):Kt:=
 bnd (Qi (C m) .add 3 t8 (I 1)) fun v0=>
 h4 t0 t1 t7 v0
theorem K196_7_eq (h4:AV→AV→AV→AV→Kt):Jy m c c196_7 (a4 h4 0 1 7 8) (Qa 0 (a0 (Zt m c)) nx) = (a4 (K196_7 m c h4) 0 1 7 8):=by
  kernel_rfl
noncomputable def K196_6 (m:Nat) (c:Qd) (h4:AV→AV→AV→AV→Kt) (t0 t1 t7 t8:AV):Kt:=
 bnd (Q9 (C m) 27 t0 t8) fun v0=>
 bnd (ldO (C m) 25 v0) fun v1=>
 bnd (Qy (C m) c t1 [v1]) fun v2=>
 ifB v2
 ((Qo (C m) [(none,t8)]))
 ((K196_7 m c h4 t0 t1 t7 t8))
theorem K196_6_eq (h4:AV→AV→AV→AV→Kt):Jy m c c196_6 (a4 h4 0 1 7 8) (Qa 0 (a0 (Zt m c)) nx) = (a4 (K196_6 m c h4) 0 1 7 8):=by
  refine Tq (Jy m c (pS1 (pB (pS1 c196_6))) (Jy m c (pS1 (pS2 (pB (pS1 c196_6)))) (fun e=>ifB (e 16) ((Jy m c (pS1 (pC1 (pS2 (pS2 (pB (pS1 c196_6)))))) (Z196 m) (Qa 1 (Jy m c c196_7 (a4 h4 0 1 7 8) (Qa 0 (a0 (Zt m c)) nx)) (Qa 0 (a0 (Zt m c)) nx))) e) ((Jy m c c196_7 (a4 h4 0 1 7 8) (Qa 0 (a0 (Zt m c)) nx)) e)) (Qa 1 (Jy m c c196_7 (a4 h4 0 1 7 8) (Qa 0 (a0 (Zt m c)) nx)) (Qa 0 (a0 (Zt m c)) nx))) (Qa 1 (Jy m c c196_7 (a4 h4 0 1 7 8) (Qa 0 (a0 (Zt m c)) nx)) (Qa 0 (a0 (Zt m c)) nx))) (by kernel_rfl) ?_
  rw [K196_7_eq m c h4 ]
  kernel_rfl
noncomputable def K196_5 (m:Nat) (c:Qd) (h4:AV→AV→AV→AV→Kt) (t0 t1 t7 t8 t9:AV):Kt:=
 ifB t9
 ((K196_6 m c h4 t0 t1 t7 t8))
 ((Zt m c))
theorem K196_5_eq (h4:AV→AV→AV→AV→Kt):Jy m c c196_5 (a4 h4 0 1 7 8) (Qa 0 (a0 (Zt m c)) nx) = (a5 (K196_5 m c h4) 0 1 7 8 9):=by
  refine Tq (fun e=>ifB (e 9) ((Jy m c c196_6 (a4 h4 0 1 7 8) (Qa 0 (a0 (Zt m c)) nx)) e) ((a0 (Zt m c)) e)) (by kernel_rfl) ?_
  rw [K196_6_eq m c h4 ]
  kernel_rfl
noncomputable def L196_4_b (m:Nat) (c:Qd) (h4:AV→AV→AV→AV→Kt) (t0 t1 t7 t8:AV):Kt:=
 bnd (Qi (C m) .lss 3 t8 t7) fun v0=>
 K196_5 m c h4 t0 t1 t7 t8 v0
noncomputable def L196_4 (m:Nat) (c:Qd) (n:Nat):AV→AV→AV→AV→Kt:=
 Nat.rec (motive:=fun _=>AV→AV→AV→AV→Kt) (fun t0 t1 t7 t8=>noK) (fun _ ih=>L196_4_b m c ih) n
theorem L196_4_b_eq (h4:AV→AV→AV→AV→Kt):Jy m c c196_4 (a4 h4 0 1 7 8) (Qa 0 (a0 (Zt m c)) nx) = fun e=>L196_4_b m c h4 (e 0) (e 1) (e 7) (e 8):=by
  refine Tq (Jy m c (pS1 c196_4) (Jy m c c196_5 (a4 h4 0 1 7 8) (Qa 0 (a0 (Zt m c)) nx)) (Qa 0 (a0 (Zt m c)) nx)) (by kernel_rfl) ?_
  rw [K196_5_eq m c h4 ]
  kernel_rfl
theorem L196_4_eq (n:Nat):(Qn (fun k=>Jy m c c196_4 k (Qa 0 (a0 (Zt m c)) nx)) n) = (a4 (L196_4 m c n) 0 1 7 8):=by
  induction n with
  | zero=>rfl
  | succ n ih=>
    show Jy m c c196_4 (Qn (fun k=>Jy m c c196_4 k (Qa 0 (a0 (Zt m c)) nx)) n) (Qa 0 (a0 (Zt m c)) nx) = _
    rw [ih,L196_4_b_eq m c (L196_4 m c n)]
    rfl
theorem L196_4_succ (n:Nat):L196_4 m c (n + 1) = L196_4_b m c (L196_4 m c n):=rfl
noncomputable def K196_3 (m:Nat) (c:Qd) (t0 t1 t7 t8:AV):Kt:=
 L196_4 m c m t0 t1 t7 t8
theorem K196_3_eq:Jy m c c196_3 (a0 (Zt m c)) nx = (a4 (K196_3 m c) 0 1 7 8):=by
  refine Tq (Qn (fun k=>Jy m c c196_4 k (Qa 0 (a0 (Zt m c)) nx)) m) (by kernel_rfl) ?_
  rw [L196_4_eq m c m]
  kernel_rfl
noncomputable def K196_1 (m:Nat) (c:Qd) (t0 t1:AV):Kt:=
 bnd (Qv (C m) .len [27] [t0]) fun v0=>
 K196_3 m c t0 t1 v0 (I 0)
theorem K196_1_eq:Jy m c c196_1 (Z196 m) nx = (a2 (K196_1 m c) 0 1):=by
  refine Tq (Jy m c (pS1 (pS1 c196_1)) (Jy m c c196_3 (Jy m c c196_2 (Z196 m) nx) nx) nx) (by kernel_rfl) ?_
  rw [K196_2_eq m c ,K196_3_eq m c ]
  kernel_rfl
noncomputable def K196_0 (m:Nat) (c:Qd) (t0 t1:AV):Kt:=
 K196_1 m c t0 t1
theorem K196_0_eq:Jy m c c196_0 (Z196 m) nx = (a2 (K196_0 m c) 0 1):=by
  refine Tq (Jy m c (pS1 c196_0) (Jy m c c196_1 (Z196 m) nx) nx) (by kernel_rfl) ?_
  rw [K196_1_eq m c ]
  kernel_rfl
theorem F196_eq (t0 t1:AV):Qu (C m) c Tryz.f196 [t0,t1] = K196_0 m c t0 t1:=by
  refine Tq ((Jy m c c196_0 (Z196 m) nx) (Xl [t0,t1])) (by kernel_rfl) ?_
  rw [K196_0_eq m c]
  rfl
noncomputable def c130_0:Code:=(Qw Tryz.f130)
noncomputable def c130_1:Code:=(pS2 c130_0)
noncomputable def c130_2:Code:=(pS2 c130_1)
noncomputable def c130_3:Code:=(pS2 (pS1 c130_1))
noncomputable def c130_4:Code:=(pL (pB c130_3))
noncomputable def c130_5:Code:=(pS2 c130_4)
noncomputable def c130_6:Code:=(pS2 c130_5)
noncomputable def c130_7:Code:=(pS2 c130_6)
noncomputable def Z130 (m:Nat):=fun (e:Nat→AV)=>Qo (C m) (Xh e Tryz.f130.results.toList)
noncomputable def Jz (m:Nat) (c:Qd) (p:Code) (k:TE→Kt) (x:Nat→TE→Kt):=Q2 p (C m) c k x (Z130 m)
noncomputable def Zu (m:Nat) (c:Qd):Kt:=
 Qo (C m) [(none,(B true))]
theorem K130_2_eq:Jz m c c130_2 (Z130 m) nx = (a0 (Zu m c)):=by
  refine Tq (Jz m c (pS1 c130_2) (Z130 m) nx) (by kernel_rfl) ?_
  kernel_rfl
noncomputable def K130_7 (m:Nat) (c:Qd) (h4:AV→AV→AV→AV→Kt) (t0 t5 t6 t7:AV):Kt:=
 bnd (Qi (C m) .add 3 t7 (I 1)) fun v0=>
 h4 t0 t5 t6 v0
theorem K130_7_eq (h4:AV→AV→AV→AV→Kt):Jz m c c130_7 (a4 h4 0 5 6 7) (Qa 0 (a0 (Zu m c)) nx) = (a4 (K130_7 m c h4) 0 5 6 7):=by
  kernel_rfl
noncomputable def K130_6 (m:Nat) (c:Qd) (h4:AV→AV→AV→AV→Kt) (t0 t5 t6 t7:AV):Kt:=
 bnd (Q9 (C m) 101 t5 t7) fun v0=>
 bnd (ldO (C m) 109 v0) fun v1=>
 bnd (Xe (C m) 109) fun v2=>
 bnd (stO (C m) 109 v2 v1) fun _=>
 dIn fun sv3=>
 Qk (Qi (C m) .gtr 3 t7 (I 0)) fun v4=>
 Qk (gdO (Qc v4 true) (fun _=>.val t0)) fun v5=>
 Qk (gdO (Qc v4 true) (fun _=>.val t7)) fun v6=>
 Qk (gdO (Qc v4 true) (Qi (C m) .sub 3 v6 (I 1))) fun v7=>
 Qk (gdO (Qc v4 true) (Q9 (C m) 101 v5 v7)) fun v8=>
 Qr (gdO (Qc v4 true) (ldO (C m) 109 v8)) fun v9=>
 Qr (gdO (Qc v4 true) (ldO (C m) 109 v2)) fun v10=>
 Xn (gdO (Qc v4 true) (Qy (C m) c (fnV 173) [v9,v10])) fun v11 sv11=>
 Qk (gdO (Qc v4 true) (Qi (C m) .geq 3 v11 (I 0))) fun v12=>
 Qk (Qm v4 v12 (B false)) fun v13=>
 Qk (gdO (Qc v13 false) (fun _=>.val t0)) fun v14=>
 Qk (gdO (Qc v13 false) (funO (.func 174) true [v2])) fun v15=>
 Xn (gdO (Qc v13 false) (Qy (C m) c (fnV 135) [v14,v15])) fun v16 sv16=>
 Qk (gdO (Qc v13 false) (fun _=>.val t7)) fun v17=>
 Qk (gdO (Qc v13 false) (Qi (C m) .lss 3 v16 v17)) fun v18=>
 Qk (Qm v13 (B true) v18) fun v19=>
 ifB v19
 ((Qo (C m) [(none,(B false))]))
 ((K130_7 m c h4 t0 t5 t6 t7))
theorem K130_6_eq (h4:AV→AV→AV→AV→Kt):Jz m c c130_6 (a4 h4 0 5 6 7) (Qa 0 (a0 (Zu m c)) nx) = (a4 (K130_6 m c h4) 0 5 6 7):=by
  refine Tq (Jz m c (pS1 (pB (pS1 c130_6))) (Jz m c (pS1 (pS2 (pB (pS1 c130_6)))) (fun e=>ifB (e 30) ((Jz m c (pS1 (pC1 (pS2 (pS2 (pB (pS1 c130_6)))))) (Z130 m) (Qa 1 (Jz m c c130_7 (a4 h4 0 5 6 7) (Qa 0 (a0 (Zu m c)) nx)) (Qa 0 (a0 (Zu m c)) nx))) e) ((Jz m c c130_7 (a4 h4 0 5 6 7) (Qa 0 (a0 (Zu m c)) nx)) e)) (Qa 1 (Jz m c c130_7 (a4 h4 0 5 6 7) (Qa 0 (a0 (Zu m c)) nx)) (Qa 0 (a0 (Zu m c)) nx))) (Qa 1 (Jz m c c130_7 (a4 h4 0 5 6 7) (Qa 0 (a0 (Zu m c)) nx)) (Qa 0 (a0 (Zu m c)) nx))) (by kernel_rfl) ?_
  rw [K130_7_eq m c h4 ]
  kernel_rfl
noncomputable def K130_5 (m:Nat) (c:Qd) (h4:AV→AV→AV→AV→Kt) (t0 t5 t6 t7 t8:AV):Kt:=
 ifB t8
 ((K130_6 m c h4 t0 t5 t6 t7))
 ((Zu m c))
theorem K130_5_eq (h4:AV→AV→AV→AV→Kt):Jz m c c130_5 (a4 h4 0 5 6 7) (Qa 0 (a0 (Zu m c)) nx) = (a5 (K130_5 m c h4) 0 5 6 7 8):=by
  refine Tq (fun e=>ifB (e 8) ((Jz m c c130_6 (a4 h4 0 5 6 7) (Qa 0 (a0 (Zu m c)) nx)) e) ((a0 (Zu m c)) e)) (by kernel_rfl) ?_
  rw [K130_6_eq m c h4 ]
  kernel_rfl
noncomputable def L130_4_b (m:Nat) (c:Qd) (h4:AV→AV→AV→AV→Kt) (t0 t5 t6 t7:AV):Kt:=
 bnd (Qi (C m) .lss 3 t7 t6) fun v0=>
 K130_5 m c h4 t0 t5 t6 t7 v0
noncomputable def L130_4 (m:Nat) (c:Qd) (n:Nat):AV→AV→AV→AV→Kt:=
 Nat.rec (motive:=fun _=>AV→AV→AV→AV→Kt) (fun t0 t5 t6 t7=>noK) (fun _ ih=>L130_4_b m c ih) n
theorem L130_4_b_eq (h4:AV→AV→AV→AV→Kt):Jz m c c130_4 (a4 h4 0 5 6 7) (Qa 0 (a0 (Zu m c)) nx) = fun e=>L130_4_b m c h4 (e 0) (e 5) (e 6) (e 7):=by
  refine Tq (Jz m c (pS1 c130_4) (Jz m c c130_5 (a4 h4 0 5 6 7) (Qa 0 (a0 (Zu m c)) nx)) (Qa 0 (a0 (Zu m c)) nx)) (by kernel_rfl) ?_
  rw [K130_5_eq m c h4 ]
  kernel_rfl
theorem L130_4_eq (n:Nat):(Qn (fun k=>Jz m c c130_4 k (Qa 0 (a0 (Zu m c)) nx)) n) = (a4 (L130_4 m c n) 0 5 6 7):=by
  induction n with
  | zero=>rfl
  | succ n ih=>
    show Jz m c c130_4 (Qn (fun k=>Jz m c c130_4 k (Qa 0 (a0 (Zu m c)) nx)) n) (Qa 0 (a0 (Zu m c)) nx) = _
    rw [ih,L130_4_b_eq m c (L130_4 m c n)]
    rfl
theorem L130_4_succ (n:Nat):L130_4 m c (n + 1) = L130_4_b m c (L130_4 m c n):=rfl
noncomputable def K130_3 (m:Nat) (c:Qd) (t0 t5 t6 t7:AV):Kt:=
 L130_4 m c m t0 t5 t6 t7
theorem K130_3_eq:Jz m c c130_3 (a0 (Zu m c)) nx = (a4 (K130_3 m c) 0 5 6 7):=by
  refine Tq (Qn (fun k=>Jz m c c130_4 k (Qa 0 (a0 (Zu m c)) nx)) m) (by kernel_rfl) ?_
  rw [L130_4_eq m c m]
  kernel_rfl
noncomputable def K130_1 (m:Nat) (c:Qd) (t0:AV):Kt:=
 bnd (Qv (C m) .len [101] [t0]) fun v0=>
 K130_3 m c t0 t0 v0 (I 0)
theorem K130_1_eq:Jz m c c130_1 (Z130 m) nx = (a1 (K130_1 m c) 0):=by
  refine Tq (Jz m c (pS1 (pS1 c130_1)) (Jz m c c130_3 (Jz m c c130_2 (Z130 m) nx) nx) nx) (by kernel_rfl) ?_
  rw [K130_2_eq m c ,K130_3_eq m c ]
  kernel_rfl
noncomputable def K130_0 (m:Nat) (c:Qd) (t0:AV):Kt:=
 K130_1 m c t0
theorem K130_0_eq:Jz m c c130_0 (Z130 m) nx = (a1 (K130_0 m c) 0):=by
  refine Tq (Jz m c (pS1 c130_0) (Jz m c c130_1 (Z130 m) nx) nx) (by kernel_rfl) ?_
  rw [K130_1_eq m c ]
  kernel_rfl
theorem F130_eq (t0:AV):Qu (C m) c Tryz.f130 [t0] = K130_0 m c t0:=by
  refine Tq ((Jz m c c130_0 (Z130 m) nx) (Xl [t0])) (by kernel_rfl) ?_
  rw [K130_0_eq m c]
  rfl
noncomputable def c72_0:Code:=(Qw Tryz.f72)
noncomputable def c72_1:Code:=(pS2 c72_0)
noncomputable def c72_2:Code:=(pS2 c72_1)
noncomputable def c72_3:Code:=(pS2 c72_2)
noncomputable def c72_4:Code:=(pS2 c72_3)
noncomputable def c72_5:Code:=(pS2 (pS1 c72_3))
noncomputable def c72_6:Code:=(pL (pB c72_5))
noncomputable def c72_7:Code:=(pS2 c72_6)
noncomputable def c72_8:Code:=(pS2 c72_7)
noncomputable def c72_9:Code:=(pS2 c72_8)
noncomputable def c72_10:Code:=(pS2 (pB (pS1 c72_8)))
noncomputable def c72_11:Code:=(pS2 c72_10)
noncomputable def c72_12:Code:=(pS2 c72_11)
noncomputable def c72_13:Code:=(pL (pB c72_12))
noncomputable def c72_14:Code:=(pS2 c72_13)
noncomputable def c72_15:Code:=(pS2 c72_14)
noncomputable def c72_16:Code:=(pS2 c72_15)
noncomputable def c72_17:Code:=(pS2 (pB (pS1 c72_15)))
noncomputable def Z72 (m:Nat):=fun (e:Nat→AV)=>Qo (C m) (Xh e Tryz.f72.results.toList)
noncomputable def D72 (m:Nat) (c:Qd) (p:Code) (k:TE→Kt) (x:Nat→TE→Kt):=Q2 p (C m) c k x (Z72 m)
noncomputable def Xx (m:Nat) (c:Qd):Kt:=
 Qo (C m) [(none,(B true))]
theorem K72_4_eq:D72 m c c72_4 (Z72 m) nx = (a0 (Xx m c)):=by
  refine Tq (D72 m c (pS1 c72_4) (Z72 m) nx) (by kernel_rfl) ?_
  kernel_rfl
noncomputable def Xm (m:Nat) (c:Qd) (h6:AV→AV→AV→AV→AV→AV→Kt) (t1 t3 t4 t47 t48 t49:AV):Kt:=
 bnd (Qi (C m) .add 3 t49 (I 1)) fun v0=>
 h6 t1 t3 t4 t47 t48 v0
theorem K72_9_eq (h6:AV→AV→AV→AV→AV→AV→Kt):D72 m c c72_9 (a6 h6 1 3 4 47 48 49) (Qa 0 (a0 (Xx m c)) nx) = (a6 (Xm m c h6) 1 3 4 47 48 49):=by
  kernel_rfl
noncomputable def K72_16 (m:Nat) (c:Qd) (h6:AV→AV→AV→AV→AV→AV→Kt) (h13:AV→AV→AV→AV→AV→AV→AV→AV→AV→Kt) (t1 t3 t4 t47 t48 t49 t61 t62 t63:AV):Kt:=
 bnd (Qi (C m) .add 3 t63 (I 1)) fun v0=>
 h13 t1 t3 t4 t47 t48 t49 t61 t62 v0
theorem K72_16_eq (h6:AV→AV→AV→AV→AV→AV→Kt) (h13:AV→AV→AV→AV→AV→AV→AV→AV→AV→Kt):D72 m c c72_16 (a9 h13 1 3 4 47 48 49 61 62 63) (Qa 2 (a6 (Xm m c h6) 1 3 4 47 48 49) (Qa 1 (a6 (Xm m c h6) 1 3 4 47 48 49) (Qa 0 (a0 (Xx m c)) nx))) = (a9 (K72_16 m c h6 h13) 1 3 4 47 48 49 61 62 63):=by
  kernel_rfl
noncomputable def K72_17 (m:Nat) (c:Qd) (h6:AV→AV→AV→AV→AV→AV→Kt) (h13:AV→AV→AV→AV→AV→AV→AV→AV→AV→Kt) (t1 t3 t4 t8 t47 t48 t49 t61 t62 t63:AV):Kt:=
 dIn fun sv0=>
 Qk (Qh (C m) 117 t8 0) fun v1=>
 Qr (ldO (C m) 115 v1) fun v2=>
 Xn (Qy (C m) c (fnV 131) [v2]) fun v3 sv3=>
 Qk (unO .not v3) fun v4=>
 Qk (gdO (Qc v4 false) (Qh (C m) 117 t8 0)) fun v5=>
 Qk (gdO (Qc v4 false) (Qh (C m) 115 v5 0)) fun v6=>
 Qr (gdO (Qc v4 false) (ldO (C m) 22 v6)) fun v7=>
 Qk (gdO (Qc v4 false) (fun _=>.val t3)) fun v8=>
 Qk (gdO (Qc v4 false) (Qi (C m) .neq 22 v7 v8)) fun v9=>
 Qk (Qm v4 (B true) v9) fun v10=>
 Qk (gdO (Qc v10 false) (Qh (C m) 117 t8 0)) fun v11=>
 Qk (gdO (Qc v10 false) (Qh (C m) 115 v11 1)) fun v12=>
 Qr (gdO (Qc v10 false) (ldO (C m) 113 v12)) fun v13=>
 Qr (gdO (Qc v10 false) (Qv (C m) .len [113] [v13])) fun v14=>
 Qk (gdO (Qc v10 false) (Qh (C m) 115 t4 1)) fun v15=>
 Qr (gdO (Qc v10 false) (ldO (C m) 113 v15)) fun v16=>
 Qr (gdO (Qc v10 false) (Qv (C m) .len [113] [v16])) fun v17=>
 Qk (gdO (Qc v10 false) (Qi (C m) .neq 3 v14 v17)) fun v18=>
 Qk (Qm v10 (B true) v18) fun v19=>
 Qk (gdO (Qc v19 false) (Qh (C m) 117 t8 0)) fun v20=>
 Qk (gdO (Qc v19 false) (Qh (C m) 115 v20 1)) fun v21=>
 Qr (gdO (Qc v19 false) (ldO (C m) 113 v21)) fun v22=>
 Qk (gdO (Qc v19 false) (Q9 (C m) 113 v22 (I 0))) fun v23=>
 Qr (gdO (Qc v19 false) (ldO (C m) 32 v23)) fun v24=>
 Qr (gdO (Qc v19 false) (Qv (C m) .len [32] [v24])) fun v25=>
 Qk (gdO (Qc v19 false) (Qh (C m) 115 t4 1)) fun v26=>
 Qr (gdO (Qc v19 false) (ldO (C m) 113 v26)) fun v27=>
 Qk (gdO (Qc v19 false) (Q9 (C m) 113 v27 (I 0))) fun v28=>
 Qr (gdO (Qc v19 false) (ldO (C m) 32 v28)) fun v29=>
 Qr (gdO (Qc v19 false) (Qv (C m) .len [32] [v29])) fun v30=>
 Qk (gdO (Qc v19 false) (Qi (C m) .neq 3 v25 v30)) fun v31=>
 Qk (Qm v19 (B true) v31) fun v32=>
 Qk (gdO (Qc v32 false) (Qh (C m) 117 t8 2)) fun v33=>
 Qr (gdO (Qc v32 false) (ldO (C m) 3 v33)) fun v34=>
 Qk (gdO (Qc v32 false) (Qi (C m) .lss 3 v34 (I (-1)))) fun v35=>
 Qk (Qm v32 (B true) v35) fun v36=>
 Qk (gdO (Qc v36 false) (Qh (C m) 117 t8 2)) fun v37=>
 Qr (gdO (Qc v36 false) (ldO (C m) 3 v37)) fun v38=>
 Qk (gdO (Qc v36 false) (Qi (C m) .gtr 3 v38 (I 16))) fun v39=>
 Qk (Qm v36 (B true) v39) fun v40=>
 ifB v40
 ((Qo (C m) [(none,(B false))]))
 ((bnd (Qh (C m) 117 t8 1) fun v41=>
 bnd (ldO (C m) 9 v41) fun v42=>
 bnd (Qi (C m) .eql 9 v42 (S [])) fun v43=>
 bnd (gdO (Qc v43 true) (Qh (C m) 117 t8 0)) fun v44=>
 bnd (gdO (Qc v43 true) (ldO (C m) 115 v44)) fun v45=>
 bnd (gdO (Qc v43 true) (Qy (C m) c (fnV 132) [v45])) fun v46=>
 bnd (Qm v43 v46 (B false)) fun v47=>
 bnd (Qh (C m) 117 t8 2) fun v48=>
 bnd (ldO (C m) 3 v48) fun v49=>
 bnd (Qi (C m) .eql 3 v49 (I (-1))) fun v50=>
 bnd (Qi (C m) .neq 4 v50 v47) fun v51=>
 ifB v51
 ((Qo (C m) [(none,(B false))]))
 ((K72_16 m c h6 h13 t1 t3 t4 t47 t48 t49 t61 t62 t63))))
theorem K72_17_eq (h6:AV→AV→AV→AV→AV→AV→Kt) (h13:AV→AV→AV→AV→AV→AV→AV→AV→AV→Kt):D72 m c c72_17 (a9 (K72_16 m c h6 h13) 1 3 4 47 48 49 61 62 63) (Qa 3 (a9 (K72_16 m c h6 h13) 1 3 4 47 48 49 61 62 63) (Qa 2 (a6 (Xm m c h6) 1 3 4 47 48 49) (Qa 1 (a6 (Xm m c h6) 1 3 4 47 48 49) (Qa 0 (a0 (Xx m c)) nx)))) = (a10 (K72_17 m c h6 h13) 1 3 4 8 47 48 49 61 62 63):=by
  refine Tq (D72 m c (pS1 (pS1 c72_17)) (fun e=>ifB (e 111) ((D72 m c (pS1 (pC1 (pS2 (pS1 c72_17)))) (Z72 m) (Qa 3 (a9 (K72_16 m c h6 h13) 1 3 4 47 48 49 61 62 63) (Qa 2 (a6 (Xm m c h6) 1 3 4 47 48 49) (Qa 1 (a6 (Xm m c h6) 1 3 4 47 48 49) (Qa 0 (a0 (Xx m c)) nx))))) e) ((D72 m c (pS1 (pS2 c72_17)) (D72 m c (pS1 (pS2 (pS2 c72_17))) (fun e=>ifB (e 124) ((D72 m c (pS1 (pC1 (pS2 (pS2 (pS2 c72_17))))) (Z72 m) (Qa 3 (a9 (K72_16 m c h6 h13) 1 3 4 47 48 49 61 62 63) (Qa 2 (a6 (Xm m c h6) 1 3 4 47 48 49) (Qa 1 (a6 (Xm m c h6) 1 3 4 47 48 49) (Qa 0 (a0 (Xx m c)) nx))))) e) ((a9 (K72_16 m c h6 h13) 1 3 4 47 48 49 61 62 63) e)) (Qa 3 (a9 (K72_16 m c h6 h13) 1 3 4 47 48 49 61 62 63) (Qa 2 (a6 (Xm m c h6) 1 3 4 47 48 49) (Qa 1 (a6 (Xm m c h6) 1 3 4 47 48 49) (Qa 0 (a0 (Xx m c)) nx))))) (Qa 3 (a9 (K72_16 m c h6 h13) 1 3 4 47 48 49 61 62 63) (Qa 2 (a6 (Xm m c h6) 1 3 4 47 48 49) (Qa 1 (a6 (Xm m c h6) 1 3 4 47 48 49) (Qa 0 (a0 (Xx m c)) nx))))) e)) (Qa 3 (a9 (K72_16 m c h6 h13) 1 3 4 47 48 49 61 62 63) (Qa 2 (a6 (Xm m c h6) 1 3 4 47 48 49) (Qa 1 (a6 (Xm m c h6) 1 3 4 47 48 49) (Qa 0 (a0 (Xx m c)) nx))))) (by kernel_rfl) ?_
  kernel_rfl
noncomputable def K72_15 (m:Nat) (c:Qd) (h6:AV→AV→AV→AV→AV→AV→Kt) (h13:AV→AV→AV→AV→AV→AV→AV→AV→AV→Kt) (t1 t3 t4 t47 t48 t49 t61 t62 t63:AV):Kt:=
 bnd (Q9 (C m) 111 t61 t63) fun v0=>
 bnd (ldO (C m) 117 v0) fun v1=>
 bnd (Xe (C m) 117) fun v2=>
 bnd (stO (C m) 117 v2 v1) fun _=>
 K72_17 m c h6 h13 t1 t3 t4 v2 t47 t48 t49 t61 t62 t63
theorem K72_15_eq (h6:AV→AV→AV→AV→AV→AV→Kt) (h13:AV→AV→AV→AV→AV→AV→AV→AV→AV→Kt):D72 m c c72_15 (a9 h13 1 3 4 47 48 49 61 62 63) (Qa 2 (a6 (Xm m c h6) 1 3 4 47 48 49) (Qa 1 (a6 (Xm m c h6) 1 3 4 47 48 49) (Qa 0 (a0 (Xx m c)) nx))) = (a9 (K72_15 m c h6 h13) 1 3 4 47 48 49 61 62 63):=by
  refine Tq (D72 m c (pS1 (pB (pS1 c72_15))) (D72 m c c72_17 (D72 m c c72_16 (a9 h13 1 3 4 47 48 49 61 62 63) (Qa 2 (a6 (Xm m c h6) 1 3 4 47 48 49) (Qa 1 (a6 (Xm m c h6) 1 3 4 47 48 49) (Qa 0 (a0 (Xx m c)) nx)))) (Qa 3 (D72 m c c72_16 (a9 h13 1 3 4 47 48 49 61 62 63) (Qa 2 (a6 (Xm m c h6) 1 3 4 47 48 49) (Qa 1 (a6 (Xm m c h6) 1 3 4 47 48 49) (Qa 0 (a0 (Xx m c)) nx)))) (Qa 2 (a6 (Xm m c h6) 1 3 4 47 48 49) (Qa 1 (a6 (Xm m c h6) 1 3 4 47 48 49) (Qa 0 (a0 (Xx m c)) nx))))) (Qa 3 (D72 m c c72_16 (a9 h13 1 3 4 47 48 49 61 62 63) (Qa 2 (a6 (Xm m c h6) 1 3 4 47 48 49) (Qa 1 (a6 (Xm m c h6) 1 3 4 47 48 49) (Qa 0 (a0 (Xx m c)) nx)))) (Qa 2 (a6 (Xm m c h6) 1 3 4 47 48 49) (Qa 1 (a6 (Xm m c h6) 1 3 4 47 48 49) (Qa 0 (a0 (Xx m c)) nx))))) (by kernel_rfl) ?_
  rw [K72_16_eq m c h6 h13 ,K72_17_eq m c h6 h13 ]
  kernel_rfl
noncomputable def K72_14 (m:Nat) (c:Qd) (h6:AV→AV→AV→AV→AV→AV→Kt) (h13:AV→AV→AV→AV→AV→AV→AV→AV→AV→Kt) (t1 t3 t4 t47 t48 t49 t61 t62 t63 t64:AV):Kt:=
 ifB t64
 ((K72_15 m c h6 h13 t1 t3 t4 t47 t48 t49 t61 t62 t63))
 ((Xm m c h6 t1 t3 t4 t47 t48 t49))
theorem K72_14_eq (h6:AV→AV→AV→AV→AV→AV→Kt) (h13:AV→AV→AV→AV→AV→AV→AV→AV→AV→Kt):D72 m c c72_14 (a9 h13 1 3 4 47 48 49 61 62 63) (Qa 2 (a6 (Xm m c h6) 1 3 4 47 48 49) (Qa 1 (a6 (Xm m c h6) 1 3 4 47 48 49) (Qa 0 (a0 (Xx m c)) nx))) = (a10 (K72_14 m c h6 h13) 1 3 4 47 48 49 61 62 63 64):=by
  refine Tq (fun e=>ifB (e 64) ((D72 m c c72_15 (a9 h13 1 3 4 47 48 49 61 62 63) (Qa 2 (a6 (Xm m c h6) 1 3 4 47 48 49) (Qa 1 (a6 (Xm m c h6) 1 3 4 47 48 49) (Qa 0 (a0 (Xx m c)) nx)))) e) ((a6 (Xm m c h6) 1 3 4 47 48 49) e)) (by kernel_rfl) ?_
  rw [K72_15_eq m c h6 h13 ]
  kernel_rfl
noncomputable def L72_13_b (m:Nat) (c:Qd) (h6:AV→AV→AV→AV→AV→AV→Kt) (h13:AV→AV→AV→AV→AV→AV→AV→AV→AV→Kt) (t1 t3 t4 t47 t48 t49 t61 t62 t63:AV):Kt:=
 bnd (Qi (C m) .lss 3 t63 t62) fun v0=>
 K72_14 m c h6 h13 t1 t3 t4 t47 t48 t49 t61 t62 t63 v0
noncomputable def L72_13 (m:Nat) (c:Qd) (h6:AV→AV→AV→AV→AV→AV→Kt) (n:Nat):AV→AV→AV→AV→AV→AV→AV→AV→AV→Kt:=
 Nat.rec (motive:=fun _=>AV→AV→AV→AV→AV→AV→AV→AV→AV→Kt) (fun t1 t3 t4 t47 t48 t49 t61 t62 t63=>noK) (fun _ ih=>L72_13_b m c h6 ih) n
theorem L72_13_b_eq (h6:AV→AV→AV→AV→AV→AV→Kt) (h13:AV→AV→AV→AV→AV→AV→AV→AV→AV→Kt):D72 m c c72_13 (a9 h13 1 3 4 47 48 49 61 62 63) (Qa 2 (a6 (Xm m c h6) 1 3 4 47 48 49) (Qa 1 (a6 (Xm m c h6) 1 3 4 47 48 49) (Qa 0 (a0 (Xx m c)) nx))) = fun e=>L72_13_b m c h6 h13 (e 1) (e 3) (e 4) (e 47) (e 48) (e 49) (e 61) (e 62) (e 63):=by
  refine Tq (D72 m c (pS1 c72_13) (D72 m c c72_14 (a9 h13 1 3 4 47 48 49 61 62 63) (Qa 2 (a6 (Xm m c h6) 1 3 4 47 48 49) (Qa 1 (a6 (Xm m c h6) 1 3 4 47 48 49) (Qa 0 (a0 (Xx m c)) nx)))) (Qa 2 (a6 (Xm m c h6) 1 3 4 47 48 49) (Qa 1 (a6 (Xm m c h6) 1 3 4 47 48 49) (Qa 0 (a0 (Xx m c)) nx)))) (by kernel_rfl) ?_
  rw [K72_14_eq m c h6 h13 ]
  kernel_rfl
theorem L72_13_eq (h6:AV→AV→AV→AV→AV→AV→Kt) (n:Nat):(Qn (fun k=>D72 m c c72_13 k (Qa 2 (a6 (Xm m c h6) 1 3 4 47 48 49) (Qa 1 (a6 (Xm m c h6) 1 3 4 47 48 49) (Qa 0 (a0 (Xx m c)) nx)))) n) = (a9 (L72_13 m c h6 n) 1 3 4 47 48 49 61 62 63):=by
  induction n with
  | zero=>rfl
  | succ n ih=>
    show D72 m c c72_13 (Qn (fun k=>D72 m c c72_13 k (Qa 2 (a6 (Xm m c h6) 1 3 4 47 48 49) (Qa 1 (a6 (Xm m c h6) 1 3 4 47 48 49) (Qa 0 (a0 (Xx m c)) nx)))) n) (Qa 2 (a6 (Xm m c h6) 1 3 4 47 48 49) (Qa 1 (a6 (Xm m c h6) 1 3 4 47 48 49) (Qa 0 (a0 (Xx m c)) nx))) = _
    rw [ih,L72_13_b_eq m c h6 (L72_13 m c h6 n)]
    rfl
theorem L72_13_succ (h6:AV→AV→AV→AV→AV→AV→Kt) (n:Nat):L72_13 m c h6 (n + 1) = L72_13_b m c h6 (L72_13 m c h6 n):=rfl
noncomputable def K72_12 (m:Nat) (c:Qd) (h6:AV→AV→AV→AV→AV→AV→Kt) (t1 t3 t4 t47 t48 t49 t61 t62 t63:AV):Kt:=
 L72_13 m c h6 m t1 t3 t4 t47 t48 t49 t61 t62 t63
theorem K72_12_eq (h6:AV→AV→AV→AV→AV→AV→Kt):D72 m c c72_12 (a6 (Xm m c h6) 1 3 4 47 48 49) (Qa 1 (a6 (Xm m c h6) 1 3 4 47 48 49) (Qa 0 (a0 (Xx m c)) nx)) = (a9 (K72_12 m c h6) 1 3 4 47 48 49 61 62 63):=by
  refine Tq (Qn (fun k=>D72 m c c72_13 k (Qa 2 (a6 (Xm m c h6) 1 3 4 47 48 49) (Qa 1 (a6 (Xm m c h6) 1 3 4 47 48 49) (Qa 0 (a0 (Xx m c)) nx)))) m) (by kernel_rfl) ?_
  rw [L72_13_eq m c h6 m]
  kernel_rfl
noncomputable def K72_11 (m:Nat) (c:Qd) (h6:AV→AV→AV→AV→AV→AV→Kt) (t1 t3 t4 t6 t47 t48 t49:AV):Kt:=
 bnd (Qv (C m) .len [111] [t6]) fun v0=>
 K72_12 m c h6 t1 t3 t4 t47 t48 t49 t6 v0 (I 0)
theorem K72_11_eq (h6:AV→AV→AV→AV→AV→AV→Kt):D72 m c c72_11 (a6 (Xm m c h6) 1 3 4 47 48 49) (Qa 1 (a6 (Xm m c h6) 1 3 4 47 48 49) (Qa 0 (a0 (Xx m c)) nx)) = (a7 (K72_11 m c h6) 1 3 4 6 47 48 49):=by
  refine Tq (D72 m c (pS1 c72_11) (D72 m c c72_12 (a6 (Xm m c h6) 1 3 4 47 48 49) (Qa 1 (a6 (Xm m c h6) 1 3 4 47 48 49) (Qa 0 (a0 (Xx m c)) nx))) (Qa 1 (a6 (Xm m c h6) 1 3 4 47 48 49) (Qa 0 (a0 (Xx m c)) nx))) (by kernel_rfl) ?_
  rw [K72_12_eq m c h6 ]
  kernel_rfl
noncomputable def K72_10 (m:Nat) (c:Qd) (h6:AV→AV→AV→AV→AV→AV→Kt) (t1 t3 t4 t6 t47 t48 t49:AV):Kt:=
 bnd (Qv (C m) .len [111] [t6]) fun v0=>
 bnd (Qh (C m) 43 t1 1) fun v1=>
 bnd (ldO (C m) 41 v1) fun v2=>
 bnd (Q9 (C m) 41 v2 (I 0)) fun v3=>
 bnd (ldO (C m) 111 v3) fun v4=>
 bnd (Qv (C m) .len [111] [v4]) fun v5=>
 bnd (Qi (C m) .neq 3 v0 v5) fun v6=>
 ifB v6
 ((Qo (C m) [(none,(B false))]))
 ((K72_11 m c h6 t1 t3 t4 t6 t47 t48 t49))
theorem K72_10_eq (h6:AV→AV→AV→AV→AV→AV→Kt):D72 m c c72_10 (a6 (Xm m c h6) 1 3 4 47 48 49) (Qa 1 (a6 (Xm m c h6) 1 3 4 47 48 49) (Qa 0 (a0 (Xx m c)) nx)) = (a7 (K72_10 m c h6) 1 3 4 6 47 48 49):=by
  refine Tq (D72 m c (pS1 (pS1 c72_10)) (fun e=>ifB (e 60) ((D72 m c (pS1 (pC1 (pS2 (pS1 c72_10)))) (Z72 m) (Qa 1 (a6 (Xm m c h6) 1 3 4 47 48 49) (Qa 0 (a0 (Xx m c)) nx))) e) ((D72 m c c72_11 (a6 (Xm m c h6) 1 3 4 47 48 49) (Qa 1 (a6 (Xm m c h6) 1 3 4 47 48 49) (Qa 0 (a0 (Xx m c)) nx))) e)) (Qa 1 (a6 (Xm m c h6) 1 3 4 47 48 49) (Qa 0 (a0 (Xx m c)) nx))) (by kernel_rfl) ?_
  rw [K72_11_eq m c h6 ]
  kernel_rfl
noncomputable def K72_8 (m:Nat) (c:Qd) (h6:AV→AV→AV→AV→AV→AV→Kt) (t1 t3 t4 t47 t48 t49:AV):Kt:=
 bnd (Q9 (C m) 41 t47 t49) fun v0=>
 bnd (ldO (C m) 111 v0) fun v1=>
 K72_10 m c h6 t1 t3 t4 v1 t47 t48 t49
theorem K72_8_eq (h6:AV→AV→AV→AV→AV→AV→Kt):D72 m c c72_8 (a6 h6 1 3 4 47 48 49) (Qa 0 (a0 (Xx m c)) nx) = (a6 (K72_8 m c h6) 1 3 4 47 48 49):=by
  refine Tq (D72 m c (pS1 (pB (pS1 c72_8))) (D72 m c c72_10 (D72 m c c72_9 (a6 h6 1 3 4 47 48 49) (Qa 0 (a0 (Xx m c)) nx)) (Qa 1 (D72 m c c72_9 (a6 h6 1 3 4 47 48 49) (Qa 0 (a0 (Xx m c)) nx)) (Qa 0 (a0 (Xx m c)) nx))) (Qa 1 (D72 m c c72_9 (a6 h6 1 3 4 47 48 49) (Qa 0 (a0 (Xx m c)) nx)) (Qa 0 (a0 (Xx m c)) nx))) (by kernel_rfl) ?_
  rw [K72_9_eq m c h6 ,K72_10_eq m c h6 ]
  kernel_rfl
noncomputable def K72_7 (m:Nat) (c:Qd) (h6:AV→AV→AV→AV→AV→AV→Kt) (t1 t3 t4 t47 t48 t49 t50:AV):Kt:=
 ifB t50
 ((K72_8 m c h6 t1 t3 t4 t47 t48 t49))
 ((Xx m c))
theorem K72_7_eq (h6:AV→AV→AV→AV→AV→AV→Kt):D72 m c c72_7 (a6 h6 1 3 4 47 48 49) (Qa 0 (a0 (Xx m c)) nx) = (a7 (K72_7 m c h6) 1 3 4 47 48 49 50):=by
  refine Tq (fun e=>ifB (e 50) ((D72 m c c72_8 (a6 h6 1 3 4 47 48 49) (Qa 0 (a0 (Xx m c)) nx)) e) ((a0 (Xx m c)) e)) (by kernel_rfl) ?_
  rw [K72_8_eq m c h6 ]
  kernel_rfl
noncomputable def L72_6_b (m:Nat) (c:Qd) (h6:AV→AV→AV→AV→AV→AV→Kt) (t1 t3 t4 t47 t48 t49:AV):Kt:=
 bnd (Qi (C m) .lss 3 t49 t48) fun v0=>
 K72_7 m c h6 t1 t3 t4 t47 t48 t49 v0
noncomputable def L72_6 (m:Nat) (c:Qd) (n:Nat):AV→AV→AV→AV→AV→AV→Kt:=
 Nat.rec (motive:=fun _=>AV→AV→AV→AV→AV→AV→Kt) (fun t1 t3 t4 t47 t48 t49=>noK) (fun _ ih=>L72_6_b m c ih) n
theorem L72_6_b_eq (h6:AV→AV→AV→AV→AV→AV→Kt):D72 m c c72_6 (a6 h6 1 3 4 47 48 49) (Qa 0 (a0 (Xx m c)) nx) = fun e=>L72_6_b m c h6 (e 1) (e 3) (e 4) (e 47) (e 48) (e 49):=by
  refine Tq (D72 m c (pS1 c72_6) (D72 m c c72_7 (a6 h6 1 3 4 47 48 49) (Qa 0 (a0 (Xx m c)) nx)) (Qa 0 (a0 (Xx m c)) nx)) (by kernel_rfl) ?_
  rw [K72_7_eq m c h6 ]
  kernel_rfl
theorem L72_6_eq (n:Nat):(Qn (fun k=>D72 m c c72_6 k (Qa 0 (a0 (Xx m c)) nx)) n) = (a6 (L72_6 m c n) 1 3 4 47 48 49):=by
  induction n with
  | zero=>rfl
  | succ n ih=>
    show D72 m c c72_6 (Qn (fun k=>D72 m c c72_6 k (Qa 0 (a0 (Xx m c)) nx)) n) (Qa 0 (a0 (Xx m c)) nx) = _
    rw [ih,L72_6_b_eq m c (L72_6 m c n)]
    rfl
theorem L72_6_succ (n:Nat):L72_6 m c (n + 1) = L72_6_b m c (L72_6 m c n):=rfl
noncomputable def K72_5 (m:Nat) (c:Qd) (t1 t3 t4 t47 t48 t49:AV):Kt:=
 L72_6 m c m t1 t3 t4 t47 t48 t49
theorem K72_5_eq:D72 m c c72_5 (a0 (Xx m c)) nx = (a6 (K72_5 m c) 1 3 4 47 48 49):=by
  refine Tq (Qn (fun k=>D72 m c c72_6 k (Qa 0 (a0 (Xx m c)) nx)) m) (by kernel_rfl) ?_
  rw [L72_6_eq m c m]
  kernel_rfl
noncomputable def K72_3 (m:Nat) (c:Qd) (t1 t3 t4:AV):Kt:=
 bnd (Qh (C m) 43 t1 1) fun v0=>
 bnd (ldO (C m) 41 v0) fun v1=>
 bnd (Qv (C m) .len [41] [v1]) fun v2=>
 K72_5 m c t1 t3 t4 v1 v2 (I 0)
theorem K72_3_eq:D72 m c c72_3 (Z72 m) nx = (a3 (K72_3 m c) 1 3 4):=by
  refine Tq (D72 m c (pS1 (pS1 c72_3)) (D72 m c c72_5 (D72 m c c72_4 (Z72 m) nx) nx) nx) (by kernel_rfl) ?_
  rw [K72_4_eq m c ,K72_5_eq m c ]
  kernel_rfl
noncomputable def K72_2 (m:Nat) (c:Qd) (t1:AV):Kt:=
 atN 13 fun v0=>
 dIn fun sv0=>
 Qk (Qh (C m) 43 t1 0) fun v1=>
 Qr (ldO (C m) 22 v1) fun v2=>
 Xn (Qy (C m) c (fnV 12) [v2,(I 0)]) fun v3 sv3=>
 Qk (Qh (C m) 43 t1 1) fun v4=>
 Ze (some true) (ldO (C m) 41 v4) (fun v5=>(Xk (ldO (C m) 41 v4) v5 sv3 && (Xk (ldO (C m) 41 v4) v5 sv0 && true))) fun v6=>
 Qk (Q9 (C m) 41 v6 (I 0)) fun v7=>
 Ze (some true) (ldO (C m) 111 v7) (fun v8=>(Xk (ldO (C m) 111 v7) v8 sv3 && (Xk (ldO (C m) 111 v7) v8 sv0 && true))) fun v9=>
 Qk (Q9 (C m) 111 v9 (I 0)) fun v10=>
 Qk (Qh (C m) 117 v10 0) fun v11=>
 Ze (some true) (ldO (C m) 115 v11) (fun v12=>(Xk (ldO (C m) 115 v11) v12 sv3 && (Xk (ldO (C m) 115 v11) v12 sv0 && true))) fun v13=>
 Vw (Xe (C m) 115) (Nat.add v0 10) fun v14=>
 Xn (stO (C m) 115 v14 v13) fun v15 sv15=>
 K72_3 m c t1 v3 v14
theorem K72_2_eq:D72 m c c72_2 (Z72 m) nx = (a1 (K72_2 m c) 1):=by
  refine Tq (D72 m c (pS1 c72_2) (D72 m c c72_3 (Z72 m) nx) nx) (by kernel_rfl) ?_
  rw [K72_3_eq m c ]
  kernel_rfl
noncomputable def K72_1 (m:Nat) (c:Qd) (t1:AV):Kt:=
 bnd (Qh (C m) 43 t1 1) fun v0=>
 bnd (ldO (C m) 41 v0) fun v1=>
 bnd (Qv (C m) .len [41] [v1]) fun v2=>
 bnd (Qi (C m) .lss 3 v2 (I 1)) fun v3=>
 bnd (gdO (Qc v3 false) (Qh (C m) 43 t1 1)) fun v4=>
 bnd (gdO (Qc v3 false) (ldO (C m) 41 v4)) fun v5=>
 bnd (gdO (Qc v3 false) (Qv (C m) .len [41] [v5])) fun v6=>
 bnd (gdO (Qc v3 false) (Qi (C m) .gtr 3 v6 (I 7))) fun v7=>
 bnd (Qm v3 (B true) v7) fun v8=>
 bnd (gdO (Qc v8 false) (Qh (C m) 43 t1 1)) fun v9=>
 bnd (gdO (Qc v8 false) (ldO (C m) 41 v9)) fun v10=>
 bnd (gdO (Qc v8 false) (Q9 (C m) 41 v10 (I 0))) fun v11=>
 bnd (gdO (Qc v8 false) (ldO (C m) 111 v11)) fun v12=>
 bnd (gdO (Qc v8 false) (Qv (C m) .len [111] [v12])) fun v13=>
 bnd (gdO (Qc v8 false) (Qi (C m) .lss 3 v13 (I 1))) fun v14=>
 bnd (Qm v8 (B true) v14) fun v15=>
 bnd (gdO (Qc v15 false) (Qh (C m) 43 t1 1)) fun v16=>
 bnd (gdO (Qc v15 false) (ldO (C m) 41 v16)) fun v17=>
 bnd (gdO (Qc v15 false) (Q9 (C m) 41 v17 (I 0))) fun v18=>
 bnd (gdO (Qc v15 false) (ldO (C m) 111 v18)) fun v19=>
 bnd (gdO (Qc v15 false) (Qv (C m) .len [111] [v19])) fun v20=>
 bnd (gdO (Qc v15 false) (Qi (C m) .gtr 3 v20 (I 256))) fun v21=>
 bnd (Qm v15 (B true) v21) fun v22=>
 ifB v22
 ((Qo (C m) [(none,(B false))]))
 ((K72_2 m c t1))
theorem K72_1_eq:D72 m c c72_1 (Z72 m) nx = (a1 (K72_1 m c) 1):=by
  refine Tq (D72 m c (pS1 (pS1 c72_1)) (fun e=>ifB (e 35) ((D72 m c (pS1 (pC1 (pS2 (pS1 c72_1)))) (Z72 m) nx) e) ((D72 m c c72_2 (Z72 m) nx) e)) nx) (by kernel_rfl) ?_
  rw [K72_2_eq m c ]
  kernel_rfl
noncomputable def K72_0 (m:Nat) (c:Qd) (t0:AV):Kt:=
 bnd (Z2 43 t0) fun v0=>
 K72_1 m c v0
theorem K72_0_eq:D72 m c c72_0 (Z72 m) nx = (a1 (K72_0 m c) 0):=by
  refine Tq (D72 m c (pS1 c72_0) (D72 m c c72_1 (Z72 m) nx) nx) (by kernel_rfl) ?_
  rw [K72_1_eq m c ]
  kernel_rfl
theorem F72_eq (t0:AV):Qu (C m) c Tryz.f72 [t0] = K72_0 m c t0:=by
  refine Tq ((D72 m c c72_0 (Z72 m) nx) (Xl [t0])) (by kernel_rfl) ?_
  rw [K72_0_eq m c]
  rfl
noncomputable def c131_0:Code:=(Qw Tryz.f131)
noncomputable def Z131 (m:Nat):=fun (e:Nat→AV)=>Qo (C m) (Xh e Tryz.f131.results.toList)
noncomputable def D131 (m:Nat) (c:Qd) (p:Code) (k:TE→Kt) (x:Nat→TE→Kt):=Q2 p (C m) c k x (Z131 m)
noncomputable def K131_0 (m:Nat) (c:Qd) (t0:AV):Kt:=
 bnd (Z2 115 t0) fun v0=>
 bnd (Qh (C m) 115 v0 1) fun v1=>
 bnd (ldO (C m) 113 v1) fun v2=>
 bnd (Qv (C m) .len [113] [v2]) fun v3=>
 bnd (Qi (C m) .geq 3 v3 (I 1)) fun v4=>
 bnd (gdO (Qc v4 true) (Qh (C m) 115 v0 1)) fun v5=>
 bnd (gdO (Qc v4 true) (ldO (C m) 113 v5)) fun v6=>
 bnd (gdO (Qc v4 true) (Qv (C m) .len [113] [v6])) fun v7=>
 bnd (gdO (Qc v4 true) (Qi (C m) .leq 3 v7 (I 16))) fun v8=>
 bnd (Qm v4 v8 (B false)) fun v9=>
 bnd (gdO (Qc v9 true) (Qh (C m) 115 v0 1)) fun v10=>
 bnd (gdO (Qc v9 true) (ldO (C m) 113 v10)) fun v11=>
 bnd (gdO (Qc v9 true) (funO (.func 176) true [v0])) fun v12=>
 bnd (gdO (Qc v9 true) (Qy (C m) c (fnV 175) [v11,v12])) fun v13=>
 bnd (gdO (Qc v9 true) (unO .not v13)) fun v14=>
 bnd (Qm v9 v14 (B false)) fun v15=>
 Qo (C m) [(none,v15)]
theorem K131_0_eq:D131 m c c131_0 (Z131 m) nx = (a1 (K131_0 m c) 0):=by
  refine Tq (D131 m c (pS1 c131_0) (D131 m c (pS1 (pS2 c131_0)) (Z131 m) nx) nx) (by kernel_rfl) ?_
  kernel_rfl
theorem F131_eq (t0:AV):Qu (C m) c Tryz.f131 [t0] = K131_0 m c t0:=by
  refine Tq ((D131 m c c131_0 (Z131 m) nx) (Xl [t0])) (by kernel_rfl) ?_
  rw [K131_0_eq m c]
  rfl
noncomputable def c176_0:Code:=(Qw Tryz.f176)
noncomputable def Z176 (m:Nat):=fun (e:Nat→AV)=>Qo (C m) (Xh e Tryz.f176.results.toList)
noncomputable def D176 (m:Nat) (c:Qd) (p:Code) (k:TE→Kt) (x:Nat→TE→Kt):=Q2 p (C m) c k x (Z176 m)
noncomputable def K176_0 (m:Nat) (c:Qd) (t0 t1:AV):Kt:=
 bnd (Qv (C m) .len [32] [t0]) fun v0=>
 bnd (Qi (C m) .lss 3 v0 (I 1)) fun v1=>
 bnd (gdO (Qc v1 false) (fun _=>.val t0)) fun v2=>
 bnd (gdO (Qc v1 false) (Qv (C m) .len [32] [v2])) fun v3=>
 bnd (gdO (Qc v1 false) (Qi (C m) .gtr 3 v3 (I 256))) fun v4=>
 bnd (Qm v1 (B true) v4) fun v5=>
 bnd (gdO (Qc v5 false) (fun _=>.val t0)) fun v6=>
 bnd (gdO (Qc v5 false) (Qv (C m) .len [32] [v6])) fun v7=>
 bnd (gdO (Qc v5 false) (Qh (C m) 115 t1 1)) fun v8=>
 bnd (gdO (Qc v5 false) (ldO (C m) 113 v8)) fun v9=>
 bnd (gdO (Qc v5 false) (Q9 (C m) 113 v9 (I 0))) fun v10=>
 bnd (gdO (Qc v5 false) (ldO (C m) 32 v10)) fun v11=>
 bnd (gdO (Qc v5 false) (Qv (C m) .len [32] [v11])) fun v12=>
 bnd (gdO (Qc v5 false) (Qi (C m) .neq 3 v7 v12)) fun v13=>
 bnd (Qm v5 (B true) v13) fun v14=>
 Qo (C m) [(none,v14)]
theorem K176_0_eq:D176 m c c176_0 (Z176 m) nx = (a2 (K176_0 m c) 0 1):=by
  refine Tq (D176 m c (pS1 c176_0) (D176 m c (pS1 (pS2 c176_0)) (Z176 m) nx) nx) (by kernel_rfl) ?_
  kernel_rfl
theorem F176_eq (t0 t1:AV):Qu (C m) c Tryz.f176 [t0,t1] = K176_0 m c t0 t1:=by
  refine Tq ((D176 m c c176_0 (Z176 m) nx) (Xl [t0,t1])) (by kernel_rfl) ?_
  rw [K176_0_eq m c]
  rfl
noncomputable def c175_0:Code:=(Qw Tryz.f175)
noncomputable def Z175 (m:Nat):=fun (e:Nat→AV)=>Qo (C m) (Xh e Tryz.f175.results.toList)
noncomputable def D175 (m:Nat) (c:Qd) (p:Code) (k:TE→Kt) (x:Nat→TE→Kt):=Q2 p (C m) c k x (Z175 m)
noncomputable def K175_0 (m:Nat) (c:Qd) (t0 t1:AV):Kt:=
 bnd (Qy (C m) c (fnV 197) [t0,t1]) fun v0=>
 bnd (Qi (C m) .geq 3 v0 (I 0)) fun v1=>
 Qo (C m) [(none,v1)]
theorem K175_0_eq:D175 m c c175_0 (Z175 m) nx = (a2 (K175_0 m c) 0 1):=by
  refine Tq (D175 m c (pS1 c175_0) (D175 m c (pS1 (pS2 c175_0)) (Z175 m) nx) nx) (by kernel_rfl) ?_
  kernel_rfl
theorem F175_eq (t0 t1:AV):Qu (C m) c Tryz.f175 [t0,t1] = K175_0 m c t0 t1:=by
  refine Tq ((D175 m c c175_0 (Z175 m) nx) (Xl [t0,t1])) (by kernel_rfl) ?_
  rw [K175_0_eq m c]
  rfl
noncomputable def c197_0:Code:=(Qw Tryz.f197)
noncomputable def c197_1:Code:=(pS2 c197_0)
noncomputable def c197_2:Code:=(pS2 c197_1)
noncomputable def c197_3:Code:=(pS2 (pS1 c197_1))
noncomputable def c197_4:Code:=(pL (pB c197_3))
noncomputable def c197_5:Code:=(pS2 c197_4)
noncomputable def c197_6:Code:=(pS2 c197_5)
noncomputable def c197_7:Code:=(pS2 c197_6)
noncomputable def Z197 (m:Nat):=fun (e:Nat→AV)=>Qo (C m) (Xh e Tryz.f197.results.toList)
noncomputable def J0 (m:Nat) (c:Qd) (p:Code) (k:TE→Kt) (x:Nat→TE→Kt):=Q2 p (C m) c k x (Z197 m)
noncomputable def Zv (m:Nat) (c:Qd):Kt:=
 Qo (C m) [(none,(I (-1)))]
theorem K197_2_eq:J0 m c c197_2 (Z197 m) nx = (a0 (Zv m c)):=by
  refine Tq (J0 m c (pS1 c197_2) (Z197 m) nx) (by kernel_rfl) ?_
  kernel_rfl
noncomputable def K197_7 (m:Nat) (c:Qd) (h4:AV→AV→AV→AV→Kt) (t0 t1 t7 t8:AV):Kt:=
 bnd (Qi (C m) .add 3 t8 (I 1)) fun v0=>
 h4 t0 t1 t7 v0
theorem K197_7_eq (h4:AV→AV→AV→AV→Kt):J0 m c c197_7 (a4 h4 0 1 7 8) (Qa 0 (a0 (Zv m c)) nx) = (a4 (K197_7 m c h4) 0 1 7 8):=by
  kernel_rfl
noncomputable def K197_6 (m:Nat) (c:Qd) (h4:AV→AV→AV→AV→Kt) (t0 t1 t7 t8:AV):Kt:=
 bnd (Q9 (C m) 113 t0 t8) fun v0=>
 bnd (ldO (C m) 32 v0) fun v1=>
 bnd (Qy (C m) c t1 [v1]) fun v2=>
 ifB v2
 ((Qo (C m) [(none,t8)]))
 ((K197_7 m c h4 t0 t1 t7 t8))
theorem K197_6_eq (h4:AV→AV→AV→AV→Kt):J0 m c c197_6 (a4 h4 0 1 7 8) (Qa 0 (a0 (Zv m c)) nx) = (a4 (K197_6 m c h4) 0 1 7 8):=by
  refine Tq (J0 m c (pS1 (pB (pS1 c197_6))) (J0 m c (pS1 (pS2 (pB (pS1 c197_6)))) (fun e=>ifB (e 16) ((J0 m c (pS1 (pC1 (pS2 (pS2 (pB (pS1 c197_6)))))) (Z197 m) (Qa 1 (J0 m c c197_7 (a4 h4 0 1 7 8) (Qa 0 (a0 (Zv m c)) nx)) (Qa 0 (a0 (Zv m c)) nx))) e) ((J0 m c c197_7 (a4 h4 0 1 7 8) (Qa 0 (a0 (Zv m c)) nx)) e)) (Qa 1 (J0 m c c197_7 (a4 h4 0 1 7 8) (Qa 0 (a0 (Zv m c)) nx)) (Qa 0 (a0 (Zv m c)) nx))) (Qa 1 (J0 m c c197_7 (a4 h4 0 1 7 8) (Qa 0 (a0 (Zv m c)) nx)) (Qa 0 (a0 (Zv m c)) nx))) (by kernel_rfl) ?_
  rw [K197_7_eq m c h4 ]
  kernel_rfl
noncomputable def K197_5 (m:Nat) (c:Qd) (h4:AV→AV→AV→AV→Kt) (t0 t1 t7 t8 t9:AV):Kt:=
 ifB t9
 ((K197_6 m c h4 t0 t1 t7 t8))
 ((Zv m c))
theorem K197_5_eq (h4:AV→AV→AV→AV→Kt):J0 m c c197_5 (a4 h4 0 1 7 8) (Qa 0 (a0 (Zv m c)) nx) = (a5 (K197_5 m c h4) 0 1 7 8 9):=by
  refine Tq (fun e=>ifB (e 9) ((J0 m c c197_6 (a4 h4 0 1 7 8) (Qa 0 (a0 (Zv m c)) nx)) e) ((a0 (Zv m c)) e)) (by kernel_rfl) ?_
  rw [K197_6_eq m c h4 ]
  kernel_rfl
noncomputable def L197_4_b (m:Nat) (c:Qd) (h4:AV→AV→AV→AV→Kt) (t0 t1 t7 t8:AV):Kt:=
 bnd (Qi (C m) .lss 3 t8 t7) fun v0=>
 K197_5 m c h4 t0 t1 t7 t8 v0
noncomputable def L197_4 (m:Nat) (c:Qd) (n:Nat):AV→AV→AV→AV→Kt:=
 Nat.rec (motive:=fun _=>AV→AV→AV→AV→Kt) (fun t0 t1 t7 t8=>noK) (fun _ ih=>L197_4_b m c ih) n
theorem L197_4_b_eq (h4:AV→AV→AV→AV→Kt):J0 m c c197_4 (a4 h4 0 1 7 8) (Qa 0 (a0 (Zv m c)) nx) = fun e=>L197_4_b m c h4 (e 0) (e 1) (e 7) (e 8):=by
  refine Tq (J0 m c (pS1 c197_4) (J0 m c c197_5 (a4 h4 0 1 7 8) (Qa 0 (a0 (Zv m c)) nx)) (Qa 0 (a0 (Zv m c)) nx)) (by kernel_rfl) ?_
  rw [K197_5_eq m c h4 ]
  kernel_rfl
theorem L197_4_eq (n:Nat):(Qn (fun k=>J0 m c c197_4 k (Qa 0 (a0 (Zv m c)) nx)) n) = (a4 (L197_4 m c n) 0 1 7 8):=by
  induction n with
  | zero=>rfl
  | succ n ih=>
    show J0 m c c197_4 (Qn (fun k=>J0 m c c197_4 k (Qa 0 (a0 (Zv m c)) nx)) n) (Qa 0 (a0 (Zv m c)) nx) = _
    rw [ih,L197_4_b_eq m c (L197_4 m c n)]
    rfl
theorem L197_4_succ (n:Nat):L197_4 m c (n + 1) = L197_4_b m c (L197_4 m c n):=rfl
noncomputable def K197_3 (m:Nat) (c:Qd) (t0 t1 t7 t8:AV):Kt:=
 L197_4 m c m t0 t1 t7 t8
theorem K197_3_eq:J0 m c c197_3 (a0 (Zv m c)) nx = (a4 (K197_3 m c) 0 1 7 8):=by
  refine Tq (Qn (fun k=>J0 m c c197_4 k (Qa 0 (a0 (Zv m c)) nx)) m) (by kernel_rfl) ?_
  rw [L197_4_eq m c m]
  kernel_rfl
noncomputable def K197_1 (m:Nat) (c:Qd) (t0 t1:AV):Kt:=
 bnd (Qv (C m) .len [113] [t0]) fun v0=>
 K197_3 m c t0 t1 v0 (I 0)
theorem K197_1_eq:J0 m c c197_1 (Z197 m) nx = (a2 (K197_1 m c) 0 1):=by
  refine Tq (J0 m c (pS1 (pS1 c197_1)) (J0 m c c197_3 (J0 m c c197_2 (Z197 m) nx) nx) nx) (by kernel_rfl) ?_
  rw [K197_2_eq m c ,K197_3_eq m c ]
  kernel_rfl
noncomputable def K197_0 (m:Nat) (c:Qd) (t0 t1:AV):Kt:=
 K197_1 m c t0 t1
theorem K197_0_eq:J0 m c c197_0 (Z197 m) nx = (a2 (K197_0 m c) 0 1):=by
  refine Tq (J0 m c (pS1 c197_0) (J0 m c c197_1 (Z197 m) nx) nx) (by kernel_rfl) ?_
  rw [K197_1_eq m c ]
  kernel_rfl
theorem F197_eq (t0 t1:AV):Qu (C m) c Tryz.f197 [t0,t1] = K197_0 m c t0 t1:=by
  refine Tq ((J0 m c c197_0 (Z197 m) nx) (Xl [t0,t1])) (by kernel_rfl) ?_
  rw [K197_0_eq m c]
  rfl
noncomputable def c132_0:Code:=(Qw Tryz.f132)
noncomputable def Z132 (m:Nat):=fun (e:Nat→AV)=>Qo (C m) (Xh e Tryz.f132.results.toList)
noncomputable def D132 (m:Nat) (c:Qd) (p:Code) (k:TE→Kt) (x:Nat→TE→Kt):=Q2 p (C m) c k x (Z132 m)
noncomputable def K132_0 (m:Nat) (c:Qd) (t0:AV):Kt:=
 bnd (Z2 115 t0) fun v0=>
 bnd (Qh (C m) 115 v0 1) fun v1=>
 bnd (ldO (C m) 113 v1) fun v2=>
 bnd (Qy (C m) c (fnV 175) [v2,(fnV 177)]) fun v3=>
 bnd (unO .not v3) fun v4=>
 Qo (C m) [(none,v4)]
theorem K132_0_eq:D132 m c c132_0 (Z132 m) nx = (a1 (K132_0 m c) 0):=by
  refine Tq (D132 m c (pS1 c132_0) (D132 m c (pS1 (pS2 c132_0)) (Z132 m) nx) nx) (by kernel_rfl) ?_
  kernel_rfl
theorem F132_eq (t0:AV):Qu (C m) c Tryz.f132 [t0] = K132_0 m c t0:=by
  refine Tq ((D132 m c c132_0 (Z132 m) nx) (Xl [t0])) (by kernel_rfl) ?_
  rw [K132_0_eq m c]
  rfl
noncomputable def c177_0:Code:=(Qw Tryz.f177)
noncomputable def Z177 (m:Nat):=fun (e:Nat→AV)=>Qo (C m) (Xh e Tryz.f177.results.toList)
noncomputable def D177 (m:Nat) (c:Qd) (p:Code) (k:TE→Kt) (x:Nat→TE→Kt):=Q2 p (C m) c k x (Z177 m)
noncomputable def K177_0 (m:Nat) (c:Qd) (t0:AV):Kt:=
 bnd (Qy (C m) c (fnV 178) [t0,(B true)]) fun v0=>
 Qo (C m) [(none,v0)]
theorem K177_0_eq:D177 m c c177_0 (Z177 m) nx = (a1 (K177_0 m c) 0):=by
  refine Tq (D177 m c (pS1 c177_0) (D177 m c (pS1 (pS2 c177_0)) (Z177 m) nx) nx) (by kernel_rfl) ?_
  kernel_rfl
theorem F177_eq (t0:AV):Qu (C m) c Tryz.f177 [t0] = K177_0 m c t0:=by
  refine Tq ((D177 m c c177_0 (Z177 m) nx) (Xl [t0])) (by kernel_rfl) ?_
  rw [K177_0_eq m c]
  rfl
noncomputable def c178_0:Code:=(Qw Tryz.f178)
noncomputable def Z178 (m:Nat):=fun (e:Nat→AV)=>Qo (C m) (Xh e Tryz.f178.results.toList)
noncomputable def D178 (m:Nat) (c:Qd) (p:Code) (k:TE→Kt) (x:Nat→TE→Kt):=Q2 p (C m) c k x (Z178 m)
noncomputable def K178_0 (m:Nat) (c:Qd) (t0 t1:AV):Kt:=
 bnd (Qy (C m) c (fnV 198) [t0,t1]) fun v0=>
 bnd (Qi (C m) .geq 3 v0 (I 0)) fun v1=>
 Qo (C m) [(none,v1)]
theorem K178_0_eq:D178 m c c178_0 (Z178 m) nx = (a2 (K178_0 m c) 0 1):=by
  refine Tq (D178 m c (pS1 c178_0) (D178 m c (pS1 (pS2 c178_0)) (Z178 m) nx) nx) (by kernel_rfl) ?_
  kernel_rfl
theorem F178_eq (t0 t1:AV):Qu (C m) c Tryz.f178 [t0,t1] = K178_0 m c t0 t1:=by
  refine Tq ((D178 m c c178_0 (Z178 m) nx) (Xl [t0,t1])) (by kernel_rfl) ?_
  rw [K178_0_eq m c]
  rfl
noncomputable def c198_0:Code:=(Qw Tryz.f198)
noncomputable def c198_1:Code:=(pS2 c198_0)
noncomputable def c198_2:Code:=(pS2 c198_1)
noncomputable def c198_3:Code:=(pS2 (pS1 c198_1))
noncomputable def c198_4:Code:=(pL (pB c198_3))
noncomputable def c198_5:Code:=(pS2 c198_4)
noncomputable def c198_6:Code:=(pS2 c198_5)
noncomputable def c198_7:Code:=(pS2 c198_6)
noncomputable def Z198 (m:Nat):=fun (e:Nat→AV)=>Qo (C m) (Xh e Tryz.f198.results.toList)
noncomputable def J1 (m:Nat) (c:Qd) (p:Code) (k:TE→Kt) (x:Nat→TE→Kt):=Q2 p (C m) c k x (Z198 m)
noncomputable def Zw (m:Nat) (c:Qd):Kt:=
 Qo (C m) [(none,(I (-1)))]
theorem K198_2_eq:J1 m c c198_2 (Z198 m) nx = (a0 (Zw m c)):=by
  refine Tq (J1 m c (pS1 c198_2) (Z198 m) nx) (by kernel_rfl) ?_
  kernel_rfl
noncomputable def K198_7 (m:Nat) (c:Qd) (h4:AV→AV→AV→AV→Kt) (t0 t1 t7 t8:AV):Kt:=
 bnd (Qi (C m) .add 3 t8 (I 1)) fun v0=>
 h4 t0 t1 t7 v0
theorem K198_7_eq (h4:AV→AV→AV→AV→Kt):J1 m c c198_7 (a4 h4 0 1 7 8) (Qa 0 (a0 (Zw m c)) nx) = (a4 (K198_7 m c h4) 0 1 7 8):=by
  kernel_rfl
noncomputable def K198_6 (m:Nat) (c:Qd) (h4:AV→AV→AV→AV→Kt) (t0 t1 t7 t8:AV):Kt:=
 bnd (Q9 (C m) 32 t0 t8) fun v0=>
 bnd (ldO (C m) 4 v0) fun v1=>
 bnd (Qi (C m) .eql 4 t1 v1) fun v2=>
 ifB v2
 ((Qo (C m) [(none,t8)]))
 ((K198_7 m c h4 t0 t1 t7 t8))
theorem K198_6_eq (h4:AV→AV→AV→AV→Kt):J1 m c c198_6 (a4 h4 0 1 7 8) (Qa 0 (a0 (Zw m c)) nx) = (a4 (K198_6 m c h4) 0 1 7 8):=by
  refine Tq (J1 m c (pS1 (pB (pS1 c198_6))) (J1 m c (pS1 (pS2 (pB (pS1 c198_6)))) (fun e=>ifB (e 16) ((J1 m c (pS1 (pC1 (pS2 (pS2 (pB (pS1 c198_6)))))) (Z198 m) (Qa 1 (J1 m c c198_7 (a4 h4 0 1 7 8) (Qa 0 (a0 (Zw m c)) nx)) (Qa 0 (a0 (Zw m c)) nx))) e) ((J1 m c c198_7 (a4 h4 0 1 7 8) (Qa 0 (a0 (Zw m c)) nx)) e)) (Qa 1 (J1 m c c198_7 (a4 h4 0 1 7 8) (Qa 0 (a0 (Zw m c)) nx)) (Qa 0 (a0 (Zw m c)) nx))) (Qa 1 (J1 m c c198_7 (a4 h4 0 1 7 8) (Qa 0 (a0 (Zw m c)) nx)) (Qa 0 (a0 (Zw m c)) nx))) (by kernel_rfl) ?_
  rw [K198_7_eq m c h4 ]
  kernel_rfl
noncomputable def K198_5 (m:Nat) (c:Qd) (h4:AV→AV→AV→AV→Kt) (t0 t1 t7 t8 t9:AV):Kt:=
 ifB t9
 ((K198_6 m c h4 t0 t1 t7 t8))
 ((Zw m c))
theorem K198_5_eq (h4:AV→AV→AV→AV→Kt):J1 m c c198_5 (a4 h4 0 1 7 8) (Qa 0 (a0 (Zw m c)) nx) = (a5 (K198_5 m c h4) 0 1 7 8 9):=by
  refine Tq (fun e=>ifB (e 9) ((J1 m c c198_6 (a4 h4 0 1 7 8) (Qa 0 (a0 (Zw m c)) nx)) e) ((a0 (Zw m c)) e)) (by kernel_rfl) ?_
  rw [K198_6_eq m c h4 ]
  kernel_rfl
noncomputable def L198_4_b (m:Nat) (c:Qd) (h4:AV→AV→AV→AV→Kt) (t0 t1 t7 t8:AV):Kt:=
 bnd (Qi (C m) .lss 3 t8 t7) fun v0=>
 K198_5 m c h4 t0 t1 t7 t8 v0
noncomputable def L198_4 (m:Nat) (c:Qd) (n:Nat):AV→AV→AV→AV→Kt:=
 Nat.rec (motive:=fun _=>AV→AV→AV→AV→Kt) (fun t0 t1 t7 t8=>noK) (fun _ ih=>L198_4_b m c ih) n
theorem L198_4_b_eq (h4:AV→AV→AV→AV→Kt):J1 m c c198_4 (a4 h4 0 1 7 8) (Qa 0 (a0 (Zw m c)) nx) = fun e=>L198_4_b m c h4 (e 0) (e 1) (e 7) (e 8):=by
  refine Tq (J1 m c (pS1 c198_4) (J1 m c c198_5 (a4 h4 0 1 7 8) (Qa 0 (a0 (Zw m c)) nx)) (Qa 0 (a0 (Zw m c)) nx)) (by kernel_rfl) ?_
  rw [K198_5_eq m c h4 ]
  kernel_rfl
theorem L198_4_eq (n:Nat):(Qn (fun k=>J1 m c c198_4 k (Qa 0 (a0 (Zw m c)) nx)) n) = (a4 (L198_4 m c n) 0 1 7 8):=by
  induction n with
  | zero=>rfl
  | succ n ih=>
    show J1 m c c198_4 (Qn (fun k=>J1 m c c198_4 k (Qa 0 (a0 (Zw m c)) nx)) n) (Qa 0 (a0 (Zw m c)) nx) = _
    rw [ih,L198_4_b_eq m c (L198_4 m c n)]
    rfl
theorem L198_4_succ (n:Nat):L198_4 m c (n + 1) = L198_4_b m c (L198_4 m c n):=rfl
noncomputable def K198_3 (m:Nat) (c:Qd) (t0 t1 t7 t8:AV):Kt:=
 L198_4 m c m t0 t1 t7 t8
theorem K198_3_eq:J1 m c c198_3 (a0 (Zw m c)) nx = (a4 (K198_3 m c) 0 1 7 8):=by
  refine Tq (Qn (fun k=>J1 m c c198_4 k (Qa 0 (a0 (Zw m c)) nx)) m) (by kernel_rfl) ?_
  rw [L198_4_eq m c m]
  kernel_rfl
noncomputable def K198_1 (m:Nat) (c:Qd) (t0 t1:AV):Kt:=
 bnd (Qv (C m) .len [32] [t0]) fun v0=>
 K198_3 m c t0 t1 v0 (I 0)
theorem K198_1_eq:J1 m c c198_1 (Z198 m) nx = (a2 (K198_1 m c) 0 1):=by
  refine Tq (J1 m c (pS1 (pS1 c198_1)) (J1 m c c198_3 (J1 m c c198_2 (Z198 m) nx) nx) nx) (by kernel_rfl) ?_
  rw [K198_2_eq m c ,K198_3_eq m c ]
  kernel_rfl
noncomputable def K198_0 (m:Nat) (c:Qd) (t0 t1:AV):Kt:=
 K198_1 m c t0 t1
theorem K198_0_eq:J1 m c c198_0 (Z198 m) nx = (a2 (K198_0 m c) 0 1):=by
  refine Tq (J1 m c (pS1 c198_0) (J1 m c c198_1 (Z198 m) nx) nx) (by kernel_rfl) ?_
  rw [K198_1_eq m c ]
  kernel_rfl
theorem F198_eq (t0 t1:AV):Qu (C m) c Tryz.f198 [t0,t1] = K198_0 m c t0 t1:=by
  refine Tq ((J1 m c c198_0 (Z198 m) nx) (Xl [t0,t1])) (by kernel_rfl) ?_
  rw [K198_0_eq m c]
  rfl
noncomputable def c30_0:Code:=(Qw Tryz.f30)
noncomputable def c30_1:Code:=(pS2 c30_0)
noncomputable def c30_2:Code:=(pS2 c30_1)
noncomputable def c30_3:Code:=(pS2 c30_2)
noncomputable def c30_4:Code:=(pS2 c30_3)
noncomputable def c30_5:Code:=(pS2 c30_4)
noncomputable def c30_6:Code:=(pS2 (pS1 c30_4))
noncomputable def c30_7:Code:=(pL (pB c30_6))
noncomputable def c30_8:Code:=(pS2 c30_7)
noncomputable def c30_9:Code:=(pS2 c30_8)
noncomputable def c30_10:Code:=(pS2 c30_9)
noncomputable def c30_11:Code:=(pS2 (pS1 c30_3))
noncomputable def c30_12:Code:=(pL (pB c30_11))
noncomputable def c30_13:Code:=(pS2 c30_12)
noncomputable def c30_14:Code:=(pS2 c30_13)
noncomputable def c30_15:Code:=(pS2 c30_14)
noncomputable def c30_16:Code:=(pS2 (pS1 c30_2))
noncomputable def c30_17:Code:=(pL (pB c30_16))
noncomputable def c30_18:Code:=(pS2 c30_17)
noncomputable def c30_19:Code:=(pS2 c30_18)
noncomputable def c30_20:Code:=(pS2 c30_19)
noncomputable def c30_21:Code:=(pS2 (pS1 c30_1))
noncomputable def c30_22:Code:=(pL (pB c30_21))
noncomputable def c30_23:Code:=(pS2 c30_22)
noncomputable def c30_24:Code:=(pS2 c30_23)
noncomputable def c30_25:Code:=(pS2 c30_24)
noncomputable def Z30 (m:Nat):=fun (e:Nat→AV)=>Qo (C m) (Xh e Tryz.f30.results.toList)
noncomputable def D30 (m:Nat) (c:Qd) (p:Code) (k:TE→Kt) (x:Nat→TE→Kt):=Q2 p (C m) c k x (Z30 m)
noncomputable def Wh (m:Nat) (c:Qd):Kt:=
 Qo (C m) [(none,(B true))]
theorem K30_5_eq:D30 m c c30_5 (Z30 m) nx = (a0 (Wh m c)):=by
  refine Tq (D30 m c (pS1 c30_5) (Z30 m) nx) (by kernel_rfl) ?_
  kernel_rfl
noncomputable def K30_10 (m:Nat) (c:Qd) (h7:AV→AV→AV→Kt) (t48 t49 t50:AV):Kt:=
 bnd (Qi (C m) .add 3 t50 (I 1)) fun v0=>
 h7 t48 t49 v0
theorem K30_10_eq (h7:AV→AV→AV→Kt):D30 m c c30_10 (a3 h7 48 49 50) (Qa 6 (a0 (Wh m c)) nx) = (a3 (K30_10 m c h7) 48 49 50):=by
  kernel_rfl
noncomputable def K30_9 (m:Nat) (c:Qd) (h7:AV→AV→AV→Kt) (t48 t49 t50:AV):Kt:=
 bnd (Q9 (C m) 41 t48 t50) fun v0=>
 bnd (ldO (C m) 111 v0) fun v1=>
 bnd (Qy (C m) c (fnV 79) [v1,(fnV 80)]) fun v2=>
 ifB v2
 ((Qo (C m) [(none,(B false))]))
 ((K30_10 m c h7 t48 t49 t50))
theorem K30_9_eq (h7:AV→AV→AV→Kt):D30 m c c30_9 (a3 h7 48 49 50) (Qa 6 (a0 (Wh m c)) nx) = (a3 (K30_9 m c h7) 48 49 50):=by
  refine Tq (D30 m c (pS1 (pB (pS1 c30_9))) (D30 m c (pS1 (pS2 (pB (pS1 c30_9)))) (fun e=>ifB (e 55) ((D30 m c (pS1 (pC1 (pS2 (pS2 (pB (pS1 c30_9)))))) (Z30 m) (Qa 7 (D30 m c c30_10 (a3 h7 48 49 50) (Qa 6 (a0 (Wh m c)) nx)) (Qa 6 (a0 (Wh m c)) nx))) e) ((D30 m c c30_10 (a3 h7 48 49 50) (Qa 6 (a0 (Wh m c)) nx)) e)) (Qa 7 (D30 m c c30_10 (a3 h7 48 49 50) (Qa 6 (a0 (Wh m c)) nx)) (Qa 6 (a0 (Wh m c)) nx))) (Qa 7 (D30 m c c30_10 (a3 h7 48 49 50) (Qa 6 (a0 (Wh m c)) nx)) (Qa 6 (a0 (Wh m c)) nx))) (by kernel_rfl) ?_
  rw [K30_10_eq m c h7 ]
  kernel_rfl
noncomputable def K30_8 (m:Nat) (c:Qd) (h7:AV→AV→AV→Kt) (t48 t49 t50 t51:AV):Kt:=
 ifB t51
 ((K30_9 m c h7 t48 t49 t50))
 ((Wh m c))
theorem K30_8_eq (h7:AV→AV→AV→Kt):D30 m c c30_8 (a3 h7 48 49 50) (Qa 6 (a0 (Wh m c)) nx) = (a4 (K30_8 m c h7) 48 49 50 51):=by
  refine Tq (fun e=>ifB (e 51) ((D30 m c c30_9 (a3 h7 48 49 50) (Qa 6 (a0 (Wh m c)) nx)) e) ((a0 (Wh m c)) e)) (by kernel_rfl) ?_
  rw [K30_9_eq m c h7 ]
  kernel_rfl
noncomputable def L30_7_b (m:Nat) (c:Qd) (h7:AV→AV→AV→Kt) (t48 t49 t50:AV):Kt:=
 bnd (Qi (C m) .lss 3 t50 t49) fun v0=>
 K30_8 m c h7 t48 t49 t50 v0
noncomputable def L30_7 (m:Nat) (c:Qd) (n:Nat):AV→AV→AV→Kt:=
 Nat.rec (motive:=fun _=>AV→AV→AV→Kt) (fun t48 t49 t50=>noK) (fun _ ih=>L30_7_b m c ih) n
theorem L30_7_b_eq (h7:AV→AV→AV→Kt):D30 m c c30_7 (a3 h7 48 49 50) (Qa 6 (a0 (Wh m c)) nx) = fun e=>L30_7_b m c h7 (e 48) (e 49) (e 50):=by
  refine Tq (D30 m c (pS1 c30_7) (D30 m c c30_8 (a3 h7 48 49 50) (Qa 6 (a0 (Wh m c)) nx)) (Qa 6 (a0 (Wh m c)) nx)) (by kernel_rfl) ?_
  rw [K30_8_eq m c h7 ]
  kernel_rfl
theorem L30_7_eq (n:Nat):(Qn (fun k=>D30 m c c30_7 k (Qa 6 (a0 (Wh m c)) nx)) n) = (a3 (L30_7 m c n) 48 49 50):=by
  induction n with
  | zero=>rfl
  | succ n ih=>
    show D30 m c c30_7 (Qn (fun k=>D30 m c c30_7 k (Qa 6 (a0 (Wh m c)) nx)) n) (Qa 6 (a0 (Wh m c)) nx) = _
    rw [ih,L30_7_b_eq m c (L30_7 m c n)]
    rfl
theorem L30_7_succ (n:Nat):L30_7 m c (n + 1) = L30_7_b m c (L30_7 m c n):=rfl
noncomputable def K30_6 (m:Nat) (c:Qd) (t48 t49 t50:AV):Kt:=
 L30_7 m c m t48 t49 t50
theorem K30_6_eq:D30 m c c30_6 (a0 (Wh m c)) nx = (a3 (K30_6 m c) 48 49 50):=by
  refine Tq (Qn (fun k=>D30 m c c30_7 k (Qa 6 (a0 (Wh m c)) nx)) m) (by kernel_rfl) ?_
  rw [L30_7_eq m c m]
  kernel_rfl
noncomputable def Wi (m:Nat) (c:Qd) (t1:AV):Kt:=
 bnd (Qh (C m) 45 t1 7) fun v0=>
 bnd (Qh (C m) 43 v0 1) fun v1=>
 bnd (ldO (C m) 41 v1) fun v2=>
 bnd (Qv (C m) .len [41] [v2]) fun v3=>
 K30_6 m c v2 v3 (I 0)
theorem K30_4_eq:D30 m c c30_4 (Z30 m) nx = (a1 (Wi m c) 1):=by
  refine Tq (D30 m c (pS1 (pS1 c30_4)) (D30 m c c30_6 (D30 m c c30_5 (Z30 m) nx) nx) nx) (by kernel_rfl) ?_
  rw [K30_5_eq m c ,K30_6_eq m c ]
  kernel_rfl
noncomputable def K30_15 (m:Nat) (c:Qd) (h12:AV→AV→AV→AV→Kt) (t1 t36 t37 t38:AV):Kt:=
 bnd (Qi (C m) .add 3 t38 (I 1)) fun v0=>
 h12 t1 t36 t37 v0
theorem K30_15_eq (h12:AV→AV→AV→AV→Kt):D30 m c c30_15 (a4 h12 1 36 37 38) (Qa 4 (a1 (Wi m c) 1) nx) = (a4 (K30_15 m c h12) 1 36 37 38):=by
  kernel_rfl
noncomputable def K30_14 (m:Nat) (c:Qd) (h12:AV→AV→AV→AV→Kt) (t1 t36 t37 t38:AV):Kt:=
 bnd (Q9 (C m) 38 t36 t38) fun v0=>
 bnd (ldO (C m) 103 v0) fun v1=>
 bnd (Xe (C m) 103) fun v2=>
 bnd (stO (C m) 103 v2 v1) fun _=>
 bnd (Qh (C m) 103 v2 1) fun v3=>
 bnd (ldO (C m) 101 v3) fun v4=>
 bnd (Qy (C m) c (fnV 77) [v4,(fnV 78)]) fun v5=>
 ifB v5
 ((Qo (C m) [(none,(B false))]))
 ((K30_15 m c h12 t1 t36 t37 t38))
theorem K30_14_eq (h12:AV→AV→AV→AV→Kt):D30 m c c30_14 (a4 h12 1 36 37 38) (Qa 4 (a1 (Wi m c) 1) nx) = (a4 (K30_14 m c h12) 1 36 37 38):=by
  refine Tq (D30 m c (pS1 (pB (pS1 c30_14))) (D30 m c (pS1 (pS2 (pB (pS1 c30_14)))) (fun e=>ifB (e 44) ((D30 m c (pS1 (pC1 (pS2 (pS2 (pB (pS1 c30_14)))))) (Z30 m) (Qa 5 (D30 m c c30_15 (a4 h12 1 36 37 38) (Qa 4 (a1 (Wi m c) 1) nx)) (Qa 4 (a1 (Wi m c) 1) nx))) e) ((D30 m c c30_15 (a4 h12 1 36 37 38) (Qa 4 (a1 (Wi m c) 1) nx)) e)) (Qa 5 (D30 m c c30_15 (a4 h12 1 36 37 38) (Qa 4 (a1 (Wi m c) 1) nx)) (Qa 4 (a1 (Wi m c) 1) nx))) (Qa 5 (D30 m c c30_15 (a4 h12 1 36 37 38) (Qa 4 (a1 (Wi m c) 1) nx)) (Qa 4 (a1 (Wi m c) 1) nx))) (by kernel_rfl) ?_
  rw [K30_15_eq m c h12 ]
  kernel_rfl
noncomputable def K30_13 (m:Nat) (c:Qd) (h12:AV→AV→AV→AV→Kt) (t1 t36 t37 t38 t39:AV):Kt:=
 ifB t39
 ((K30_14 m c h12 t1 t36 t37 t38))
 ((Wi m c t1))
theorem K30_13_eq (h12:AV→AV→AV→AV→Kt):D30 m c c30_13 (a4 h12 1 36 37 38) (Qa 4 (a1 (Wi m c) 1) nx) = (a5 (K30_13 m c h12) 1 36 37 38 39):=by
  refine Tq (fun e=>ifB (e 39) ((D30 m c c30_14 (a4 h12 1 36 37 38) (Qa 4 (a1 (Wi m c) 1) nx)) e) ((a1 (Wi m c) 1) e)) (by kernel_rfl) ?_
  rw [K30_14_eq m c h12 ]
  kernel_rfl
noncomputable def L30_12_b (m:Nat) (c:Qd) (h12:AV→AV→AV→AV→Kt) (t1 t36 t37 t38:AV):Kt:=
 bnd (Qi (C m) .lss 3 t38 t37) fun v0=>
 K30_13 m c h12 t1 t36 t37 t38 v0
noncomputable def L30_12 (m:Nat) (c:Qd) (n:Nat):AV→AV→AV→AV→Kt:=
 Nat.rec (motive:=fun _=>AV→AV→AV→AV→Kt) (fun t1 t36 t37 t38=>noK) (fun _ ih=>L30_12_b m c ih) n
theorem L30_12_b_eq (h12:AV→AV→AV→AV→Kt):D30 m c c30_12 (a4 h12 1 36 37 38) (Qa 4 (a1 (Wi m c) 1) nx) = fun e=>L30_12_b m c h12 (e 1) (e 36) (e 37) (e 38):=by
  refine Tq (D30 m c (pS1 c30_12) (D30 m c c30_13 (a4 h12 1 36 37 38) (Qa 4 (a1 (Wi m c) 1) nx)) (Qa 4 (a1 (Wi m c) 1) nx)) (by kernel_rfl) ?_
  rw [K30_13_eq m c h12 ]
  kernel_rfl
theorem L30_12_eq (n:Nat):(Qn (fun k=>D30 m c c30_12 k (Qa 4 (a1 (Wi m c) 1) nx)) n) = (a4 (L30_12 m c n) 1 36 37 38):=by
  induction n with
  | zero=>rfl
  | succ n ih=>
    show D30 m c c30_12 (Qn (fun k=>D30 m c c30_12 k (Qa 4 (a1 (Wi m c) 1) nx)) n) (Qa 4 (a1 (Wi m c) 1) nx) = _
    rw [ih,L30_12_b_eq m c (L30_12 m c n)]
    rfl
theorem L30_12_succ (n:Nat):L30_12 m c (n + 1) = L30_12_b m c (L30_12 m c n):=rfl
noncomputable def K30_11 (m:Nat) (c:Qd) (t1 t36 t37 t38:AV):Kt:=
 L30_12 m c m t1 t36 t37 t38
theorem K30_11_eq:D30 m c c30_11 (a1 (Wi m c) 1) nx = (a4 (K30_11 m c) 1 36 37 38):=by
  refine Tq (Qn (fun k=>D30 m c c30_12 k (Qa 4 (a1 (Wi m c) 1) nx)) m) (by kernel_rfl) ?_
  rw [L30_12_eq m c m]
  kernel_rfl
noncomputable def Wj (m:Nat) (c:Qd) (t1:AV):Kt:=
 bnd (Qh (C m) 45 t1 6) fun v0=>
 bnd (Qh (C m) 40 v0 2) fun v1=>
 bnd (ldO (C m) 38 v1) fun v2=>
 bnd (Qv (C m) .len [38] [v2]) fun v3=>
 K30_11 m c t1 v2 v3 (I 0)
theorem K30_3_eq:D30 m c c30_3 (Z30 m) nx = (a1 (Wj m c) 1):=by
  refine Tq (D30 m c (pS1 (pS1 c30_3)) (D30 m c c30_11 (D30 m c c30_4 (Z30 m) nx) nx) nx) (by kernel_rfl) ?_
  rw [K30_4_eq m c ,K30_11_eq m c ]
  kernel_rfl
noncomputable def K30_20 (m:Nat) (c:Qd) (h17:AV→AV→AV→AV→Kt) (t1 t25 t26 t27:AV):Kt:=
 bnd (Qi (C m) .add 3 t27 (I 1)) fun v0=>
 h17 t1 t25 t26 v0
theorem K30_20_eq (h17:AV→AV→AV→AV→Kt):D30 m c c30_20 (a4 h17 1 25 26 27) (Qa 2 (a1 (Wj m c) 1) nx) = (a4 (K30_20 m c h17) 1 25 26 27):=by
  kernel_rfl
noncomputable def K30_19 (m:Nat) (c:Qd) (h17:AV→AV→AV→AV→Kt) (t1 t25 t26 t27:AV):Kt:=
 bnd (Q9 (C m) 35 t25 t27) fun v0=>
 bnd (ldO (C m) 94 v0) fun v1=>
 bnd (Qy (C m) c (fnV 75) [v1,(fnV 76)]) fun v2=>
 ifB v2
 ((Qo (C m) [(none,(B false))]))
 ((K30_20 m c h17 t1 t25 t26 t27))
theorem K30_19_eq (h17:AV→AV→AV→AV→Kt):D30 m c c30_19 (a4 h17 1 25 26 27) (Qa 2 (a1 (Wj m c) 1) nx) = (a4 (K30_19 m c h17) 1 25 26 27):=by
  refine Tq (D30 m c (pS1 (pB (pS1 c30_19))) (D30 m c (pS1 (pS2 (pB (pS1 c30_19)))) (fun e=>ifB (e 32) ((D30 m c (pS1 (pC1 (pS2 (pS2 (pB (pS1 c30_19)))))) (Z30 m) (Qa 3 (D30 m c c30_20 (a4 h17 1 25 26 27) (Qa 2 (a1 (Wj m c) 1) nx)) (Qa 2 (a1 (Wj m c) 1) nx))) e) ((D30 m c c30_20 (a4 h17 1 25 26 27) (Qa 2 (a1 (Wj m c) 1) nx)) e)) (Qa 3 (D30 m c c30_20 (a4 h17 1 25 26 27) (Qa 2 (a1 (Wj m c) 1) nx)) (Qa 2 (a1 (Wj m c) 1) nx))) (Qa 3 (D30 m c c30_20 (a4 h17 1 25 26 27) (Qa 2 (a1 (Wj m c) 1) nx)) (Qa 2 (a1 (Wj m c) 1) nx))) (by kernel_rfl) ?_
  rw [K30_20_eq m c h17 ]
  kernel_rfl
noncomputable def K30_18 (m:Nat) (c:Qd) (h17:AV→AV→AV→AV→Kt) (t1 t25 t26 t27 t28:AV):Kt:=
 ifB t28
 ((K30_19 m c h17 t1 t25 t26 t27))
 ((Wj m c t1))
theorem K30_18_eq (h17:AV→AV→AV→AV→Kt):D30 m c c30_18 (a4 h17 1 25 26 27) (Qa 2 (a1 (Wj m c) 1) nx) = (a5 (K30_18 m c h17) 1 25 26 27 28):=by
  refine Tq (fun e=>ifB (e 28) ((D30 m c c30_19 (a4 h17 1 25 26 27) (Qa 2 (a1 (Wj m c) 1) nx)) e) ((a1 (Wj m c) 1) e)) (by kernel_rfl) ?_
  rw [K30_19_eq m c h17 ]
  kernel_rfl
noncomputable def L30_17_b (m:Nat) (c:Qd) (h17:AV→AV→AV→AV→Kt) (t1 t25 t26 t27:AV):Kt:=
 bnd (Qi (C m) .lss 3 t27 t26) fun v0=>
 K30_18 m c h17 t1 t25 t26 t27 v0
noncomputable def L30_17 (m:Nat) (c:Qd) (n:Nat):AV→AV→AV→AV→Kt:=
 Nat.rec (motive:=fun _=>AV→AV→AV→AV→Kt) (fun t1 t25 t26 t27=>noK) (fun _ ih=>L30_17_b m c ih) n
theorem L30_17_b_eq (h17:AV→AV→AV→AV→Kt):D30 m c c30_17 (a4 h17 1 25 26 27) (Qa 2 (a1 (Wj m c) 1) nx) = fun e=>L30_17_b m c h17 (e 1) (e 25) (e 26) (e 27):=by
  refine Tq (D30 m c (pS1 c30_17) (D30 m c c30_18 (a4 h17 1 25 26 27) (Qa 2 (a1 (Wj m c) 1) nx)) (Qa 2 (a1 (Wj m c) 1) nx)) (by kernel_rfl) ?_
  rw [K30_18_eq m c h17 ]
  kernel_rfl
theorem L30_17_eq (n:Nat):(Qn (fun k=>D30 m c c30_17 k (Qa 2 (a1 (Wj m c) 1) nx)) n) = (a4 (L30_17 m c n) 1 25 26 27):=by
  induction n with
  | zero=>rfl
  | succ n ih=>
    show D30 m c c30_17 (Qn (fun k=>D30 m c c30_17 k (Qa 2 (a1 (Wj m c) 1) nx)) n) (Qa 2 (a1 (Wj m c) 1) nx) = _
    rw [ih,L30_17_b_eq m c (L30_17 m c n)]
    rfl
theorem L30_17_succ (n:Nat):L30_17 m c (n + 1) = L30_17_b m c (L30_17 m c n):=rfl
noncomputable def K30_16 (m:Nat) (c:Qd) (t1 t25 t26 t27:AV):Kt:=
 L30_17 m c m t1 t25 t26 t27
theorem K30_16_eq:D30 m c c30_16 (a1 (Wj m c) 1) nx = (a4 (K30_16 m c) 1 25 26 27):=by
  refine Tq (Qn (fun k=>D30 m c c30_17 k (Qa 2 (a1 (Wj m c) 1) nx)) m) (by kernel_rfl) ?_
  rw [L30_17_eq m c m]
  kernel_rfl
noncomputable def Wk (m:Nat) (c:Qd) (t1:AV):Kt:=
 bnd (Qh (C m) 45 t1 5) fun v0=>
 bnd (Qh (C m) 37 v0 2) fun v1=>
 bnd (ldO (C m) 35 v1) fun v2=>
 bnd (Qv (C m) .len [35] [v2]) fun v3=>
 K30_16 m c t1 v2 v3 (I 0)
theorem K30_2_eq:D30 m c c30_2 (Z30 m) nx = (a1 (Wk m c) 1):=by
  refine Tq (D30 m c (pS1 (pS1 c30_2)) (D30 m c c30_16 (D30 m c c30_3 (Z30 m) nx) nx) nx) (by kernel_rfl) ?_
  rw [K30_3_eq m c ,K30_16_eq m c ]
  kernel_rfl
noncomputable def K30_25 (m:Nat) (c:Qd) (h22:AV→AV→AV→AV→Kt) (t1 t13 t14 t15:AV):Kt:=
 bnd (Qi (C m) .add 3 t15 (I 1)) fun v0=>
 h22 t1 t13 t14 v0
theorem K30_25_eq (h22:AV→AV→AV→AV→Kt):D30 m c c30_25 (a4 h22 1 13 14 15) (Qa 0 (a1 (Wk m c) 1) nx) = (a4 (K30_25 m c h22) 1 13 14 15):=by
  kernel_rfl
noncomputable def K30_24 (m:Nat) (c:Qd) (h22:AV→AV→AV→AV→Kt) (t1 t13 t14 t15:AV):Kt:=
 bnd (Q9 (C m) 26 t13 t15) fun v0=>
 bnd (ldO (C m) 87 v0) fun v1=>
 bnd (Xe (C m) 87) fun v2=>
 bnd (stO (C m) 87 v2 v1) fun _=>
 bnd (Qh (C m) 87 v2 0) fun v3=>
 bnd (ldO (C m) 85 v3) fun v4=>
 bnd (Qy (C m) c (fnV 73) [v4,(fnV 74)]) fun v5=>
 ifB v5
 ((Qo (C m) [(none,(B false))]))
 ((K30_25 m c h22 t1 t13 t14 t15))
theorem K30_24_eq (h22:AV→AV→AV→AV→Kt):D30 m c c30_24 (a4 h22 1 13 14 15) (Qa 0 (a1 (Wk m c) 1) nx) = (a4 (K30_24 m c h22) 1 13 14 15):=by
  refine Tq (D30 m c (pS1 (pB (pS1 c30_24))) (D30 m c (pS1 (pS2 (pB (pS1 c30_24)))) (fun e=>ifB (e 21) ((D30 m c (pS1 (pC1 (pS2 (pS2 (pB (pS1 c30_24)))))) (Z30 m) (Qa 1 (D30 m c c30_25 (a4 h22 1 13 14 15) (Qa 0 (a1 (Wk m c) 1) nx)) (Qa 0 (a1 (Wk m c) 1) nx))) e) ((D30 m c c30_25 (a4 h22 1 13 14 15) (Qa 0 (a1 (Wk m c) 1) nx)) e)) (Qa 1 (D30 m c c30_25 (a4 h22 1 13 14 15) (Qa 0 (a1 (Wk m c) 1) nx)) (Qa 0 (a1 (Wk m c) 1) nx))) (Qa 1 (D30 m c c30_25 (a4 h22 1 13 14 15) (Qa 0 (a1 (Wk m c) 1) nx)) (Qa 0 (a1 (Wk m c) 1) nx))) (by kernel_rfl) ?_
  rw [K30_25_eq m c h22 ]
  kernel_rfl
noncomputable def K30_23 (m:Nat) (c:Qd) (h22:AV→AV→AV→AV→Kt) (t1 t13 t14 t15 t16:AV):Kt:=
 ifB t16
 ((K30_24 m c h22 t1 t13 t14 t15))
 ((Wk m c t1))
theorem K30_23_eq (h22:AV→AV→AV→AV→Kt):D30 m c c30_23 (a4 h22 1 13 14 15) (Qa 0 (a1 (Wk m c) 1) nx) = (a5 (K30_23 m c h22) 1 13 14 15 16):=by
  refine Tq (fun e=>ifB (e 16) ((D30 m c c30_24 (a4 h22 1 13 14 15) (Qa 0 (a1 (Wk m c) 1) nx)) e) ((a1 (Wk m c) 1) e)) (by kernel_rfl) ?_
  rw [K30_24_eq m c h22 ]
  kernel_rfl
noncomputable def L30_22_b (m:Nat) (c:Qd) (h22:AV→AV→AV→AV→Kt) (t1 t13 t14 t15:AV):Kt:=
 bnd (Qi (C m) .lss 3 t15 t14) fun v0=>
 K30_23 m c h22 t1 t13 t14 t15 v0
noncomputable def L30_22 (m:Nat) (c:Qd) (n:Nat):AV→AV→AV→AV→Kt:=
 Nat.rec (motive:=fun _=>AV→AV→AV→AV→Kt) (fun t1 t13 t14 t15=>noK) (fun _ ih=>L30_22_b m c ih) n
theorem L30_22_b_eq (h22:AV→AV→AV→AV→Kt):D30 m c c30_22 (a4 h22 1 13 14 15) (Qa 0 (a1 (Wk m c) 1) nx) = fun e=>L30_22_b m c h22 (e 1) (e 13) (e 14) (e 15):=by
  refine Tq (D30 m c (pS1 c30_22) (D30 m c c30_23 (a4 h22 1 13 14 15) (Qa 0 (a1 (Wk m c) 1) nx)) (Qa 0 (a1 (Wk m c) 1) nx)) (by kernel_rfl) ?_
  rw [K30_23_eq m c h22 ]
  kernel_rfl
theorem L30_22_eq (n:Nat):(Qn (fun k=>D30 m c c30_22 k (Qa 0 (a1 (Wk m c) 1) nx)) n) = (a4 (L30_22 m c n) 1 13 14 15):=by
  induction n with
  | zero=>rfl
  | succ n ih=>
    show D30 m c c30_22 (Qn (fun k=>D30 m c c30_22 k (Qa 0 (a1 (Wk m c) 1) nx)) n) (Qa 0 (a1 (Wk m c) 1) nx) = _
    rw [ih,L30_22_b_eq m c (L30_22 m c n)]
    rfl
theorem L30_22_succ (n:Nat):L30_22 m c (n + 1) = L30_22_b m c (L30_22 m c n):=rfl
noncomputable def K30_21 (m:Nat) (c:Qd) (t1 t13 t14 t15:AV):Kt:=
 L30_22 m c m t1 t13 t14 t15
theorem K30_21_eq:D30 m c c30_21 (a1 (Wk m c) 1) nx = (a4 (K30_21 m c) 1 13 14 15):=by
  refine Tq (Qn (fun k=>D30 m c c30_22 k (Qa 0 (a1 (Wk m c) 1) nx)) m) (by kernel_rfl) ?_
  rw [L30_22_eq m c m]
  kernel_rfl
noncomputable def K30_1 (m:Nat) (c:Qd) (t1:AV):Kt:=
 bnd (Qh (C m) 45 t1 4) fun v0=>
 bnd (Qh (C m) 31 v0 3) fun v1=>
 bnd (ldO (C m) 26 v1) fun v2=>
 bnd (Qv (C m) .len [26] [v2]) fun v3=>
 K30_21 m c t1 v2 v3 (I 0)
theorem K30_1_eq:D30 m c c30_1 (Z30 m) nx = (a1 (K30_1 m c) 1):=by
  refine Tq (D30 m c (pS1 (pS1 c30_1)) (D30 m c c30_21 (D30 m c c30_2 (Z30 m) nx) nx) nx) (by kernel_rfl) ?_
  rw [K30_2_eq m c ,K30_21_eq m c ]
  kernel_rfl
noncomputable def K30_0 (m:Nat) (c:Qd) (t0:AV):Kt:=
 bnd (Z2 45 t0) fun v0=>
 K30_1 m c v0
theorem K30_0_eq:D30 m c c30_0 (Z30 m) nx = (a1 (K30_0 m c) 0):=by
  refine Tq (D30 m c (pS1 c30_0) (D30 m c c30_1 (Z30 m) nx) nx) (by kernel_rfl) ?_
  rw [K30_1_eq m c ]
  kernel_rfl
theorem F30_eq (t0:AV):Qu (C m) c Tryz.f30 [t0] = K30_0 m c t0:=by
  refine Tq ((D30 m c c30_0 (Z30 m) nx) (Xl [t0])) (by kernel_rfl) ?_
  rw [K30_0_eq m c]
  rfl
noncomputable def c73_0:Code:=(Qw Tryz.f73)
noncomputable def Z73 (m:Nat):=fun (e:Nat→AV)=>Qo (C m) (Xh e Tryz.f73.results.toList)
noncomputable def D73 (m:Nat) (c:Qd) (p:Code) (k:TE→Kt) (x:Nat→TE→Kt):=Q2 p (C m) c k x (Z73 m)
noncomputable def K73_0 (m:Nat) (c:Qd) (t0 t1:AV):Kt:=
 bnd (Qy (C m) c (fnV 133) [t0,t1]) fun v0=>
 bnd (Qi (C m) .geq 3 v0 (I 0)) fun v1=>
 Qo (C m) [(none,v1)]
theorem K73_0_eq:D73 m c c73_0 (Z73 m) nx = (a2 (K73_0 m c) 0 1):=by
  refine Tq (D73 m c (pS1 c73_0) (D73 m c (pS1 (pS2 c73_0)) (Z73 m) nx) nx) (by kernel_rfl) ?_
  kernel_rfl
theorem F73_eq (t0 t1:AV):Qu (C m) c Tryz.f73 [t0,t1] = K73_0 m c t0 t1:=by
  refine Tq ((D73 m c c73_0 (Z73 m) nx) (Xl [t0,t1])) (by kernel_rfl) ?_
  rw [K73_0_eq m c]
  rfl
noncomputable def c133_0:Code:=(Qw Tryz.f133)
noncomputable def c133_1:Code:=(pS2 c133_0)
noncomputable def c133_2:Code:=(pS2 c133_1)
noncomputable def c133_3:Code:=(pS2 (pS1 c133_1))
noncomputable def c133_4:Code:=(pL (pB c133_3))
noncomputable def c133_5:Code:=(pS2 c133_4)
noncomputable def c133_6:Code:=(pS2 c133_5)
noncomputable def c133_7:Code:=(pS2 c133_6)
noncomputable def Z133 (m:Nat):=fun (e:Nat→AV)=>Qo (C m) (Xh e Tryz.f133.results.toList)
noncomputable def J2 (m:Nat) (c:Qd) (p:Code) (k:TE→Kt) (x:Nat→TE→Kt):=Q2 p (C m) c k x (Z133 m)
noncomputable def Zx (m:Nat) (c:Qd):Kt:=
 Qo (C m) [(none,(I (-1)))]
theorem K133_2_eq:J2 m c c133_2 (Z133 m) nx = (a0 (Zx m c)):=by
  refine Tq (J2 m c (pS1 c133_2) (Z133 m) nx) (by kernel_rfl) ?_
  kernel_rfl
noncomputable def K133_7 (m:Nat) (c:Qd) (h4:AV→AV→AV→AV→Kt) (t0 t1 t7 t8:AV):Kt:=
 bnd (Qi (C m) .add 3 t8 (I 1)) fun v0=>
 h4 t0 t1 t7 v0
theorem K133_7_eq (h4:AV→AV→AV→AV→Kt):J2 m c c133_7 (a4 h4 0 1 7 8) (Qa 0 (a0 (Zx m c)) nx) = (a4 (K133_7 m c h4) 0 1 7 8):=by
  kernel_rfl
noncomputable def K133_6 (m:Nat) (c:Qd) (h4:AV→AV→AV→AV→Kt) (t0 t1 t7 t8:AV):Kt:=
 bnd (Q9 (C m) 85 t0 t8) fun v0=>
 bnd (ldO (C m) 92 v0) fun v1=>
 bnd (Qy (C m) c t1 [v1]) fun v2=>
 ifB v2
 ((Qo (C m) [(none,t8)]))
 ((K133_7 m c h4 t0 t1 t7 t8))
theorem K133_6_eq (h4:AV→AV→AV→AV→Kt):J2 m c c133_6 (a4 h4 0 1 7 8) (Qa 0 (a0 (Zx m c)) nx) = (a4 (K133_6 m c h4) 0 1 7 8):=by
  refine Tq (J2 m c (pS1 (pB (pS1 c133_6))) (J2 m c (pS1 (pS2 (pB (pS1 c133_6)))) (fun e=>ifB (e 16) ((J2 m c (pS1 (pC1 (pS2 (pS2 (pB (pS1 c133_6)))))) (Z133 m) (Qa 1 (J2 m c c133_7 (a4 h4 0 1 7 8) (Qa 0 (a0 (Zx m c)) nx)) (Qa 0 (a0 (Zx m c)) nx))) e) ((J2 m c c133_7 (a4 h4 0 1 7 8) (Qa 0 (a0 (Zx m c)) nx)) e)) (Qa 1 (J2 m c c133_7 (a4 h4 0 1 7 8) (Qa 0 (a0 (Zx m c)) nx)) (Qa 0 (a0 (Zx m c)) nx))) (Qa 1 (J2 m c c133_7 (a4 h4 0 1 7 8) (Qa 0 (a0 (Zx m c)) nx)) (Qa 0 (a0 (Zx m c)) nx))) (by kernel_rfl) ?_
  rw [K133_7_eq m c h4 ]
  kernel_rfl
noncomputable def K133_5 (m:Nat) (c:Qd) (h4:AV→AV→AV→AV→Kt) (t0 t1 t7 t8 t9:AV):Kt:=
 ifB t9
 ((K133_6 m c h4 t0 t1 t7 t8))
 ((Zx m c))
theorem K133_5_eq (h4:AV→AV→AV→AV→Kt):J2 m c c133_5 (a4 h4 0 1 7 8) (Qa 0 (a0 (Zx m c)) nx) = (a5 (K133_5 m c h4) 0 1 7 8 9):=by
  refine Tq (fun e=>ifB (e 9) ((J2 m c c133_6 (a4 h4 0 1 7 8) (Qa 0 (a0 (Zx m c)) nx)) e) ((a0 (Zx m c)) e)) (by kernel_rfl) ?_
  rw [K133_6_eq m c h4 ]
  kernel_rfl
noncomputable def L133_4_b (m:Nat) (c:Qd) (h4:AV→AV→AV→AV→Kt) (t0 t1 t7 t8:AV):Kt:=
 bnd (Qi (C m) .lss 3 t8 t7) fun v0=>
 K133_5 m c h4 t0 t1 t7 t8 v0
noncomputable def L133_4 (m:Nat) (c:Qd) (n:Nat):AV→AV→AV→AV→Kt:=
 Nat.rec (motive:=fun _=>AV→AV→AV→AV→Kt) (fun t0 t1 t7 t8=>noK) (fun _ ih=>L133_4_b m c ih) n
theorem L133_4_b_eq (h4:AV→AV→AV→AV→Kt):J2 m c c133_4 (a4 h4 0 1 7 8) (Qa 0 (a0 (Zx m c)) nx) = fun e=>L133_4_b m c h4 (e 0) (e 1) (e 7) (e 8):=by
  refine Tq (J2 m c (pS1 c133_4) (J2 m c c133_5 (a4 h4 0 1 7 8) (Qa 0 (a0 (Zx m c)) nx)) (Qa 0 (a0 (Zx m c)) nx)) (by kernel_rfl) ?_
  rw [K133_5_eq m c h4 ]
  kernel_rfl
theorem L133_4_eq (n:Nat):(Qn (fun k=>J2 m c c133_4 k (Qa 0 (a0 (Zx m c)) nx)) n) = (a4 (L133_4 m c n) 0 1 7 8):=by
  induction n with
  | zero=>rfl
  | succ n ih=>
    show J2 m c c133_4 (Qn (fun k=>J2 m c c133_4 k (Qa 0 (a0 (Zx m c)) nx)) n) (Qa 0 (a0 (Zx m c)) nx) = _
    rw [ih,L133_4_b_eq m c (L133_4 m c n)]
    rfl
theorem L133_4_succ (n:Nat):L133_4 m c (n + 1) = L133_4_b m c (L133_4 m c n):=rfl
noncomputable def K133_3 (m:Nat) (c:Qd) (t0 t1 t7 t8:AV):Kt:=
 L133_4 m c m t0 t1 t7 t8
theorem K133_3_eq:J2 m c c133_3 (a0 (Zx m c)) nx = (a4 (K133_3 m c) 0 1 7 8):=by
  refine Tq (Qn (fun k=>J2 m c c133_4 k (Qa 0 (a0 (Zx m c)) nx)) m) (by kernel_rfl) ?_
  rw [L133_4_eq m c m]
  kernel_rfl
noncomputable def K133_1 (m:Nat) (c:Qd) (t0 t1:AV):Kt:=
 bnd (Qv (C m) .len [85] [t0]) fun v0=>
 K133_3 m c t0 t1 v0 (I 0)
theorem K133_1_eq:J2 m c c133_1 (Z133 m) nx = (a2 (K133_1 m c) 0 1):=by
  refine Tq (J2 m c (pS1 (pS1 c133_1)) (J2 m c c133_3 (J2 m c c133_2 (Z133 m) nx) nx) nx) (by kernel_rfl) ?_
  rw [K133_2_eq m c ,K133_3_eq m c ]
  kernel_rfl
noncomputable def K133_0 (m:Nat) (c:Qd) (t0 t1:AV):Kt:=
 K133_1 m c t0 t1
theorem K133_0_eq:J2 m c c133_0 (Z133 m) nx = (a2 (K133_0 m c) 0 1):=by
  refine Tq (J2 m c (pS1 c133_0) (J2 m c c133_1 (Z133 m) nx) nx) (by kernel_rfl) ?_
  rw [K133_1_eq m c ]
  kernel_rfl
theorem F133_eq (t0 t1:AV):Qu (C m) c Tryz.f133 [t0,t1] = K133_0 m c t0 t1:=by
  refine Tq ((J2 m c c133_0 (Z133 m) nx) (Xl [t0,t1])) (by kernel_rfl) ?_
  rw [K133_0_eq m c]
  rfl
noncomputable def c76_0:Code:=(Qw Tryz.f76)
noncomputable def Z76 (m:Nat):=fun (e:Nat→AV)=>Qo (C m) (Xh e Tryz.f76.results.toList)
noncomputable def D76 (m:Nat) (c:Qd) (p:Code) (k:TE→Kt) (x:Nat→TE→Kt):=Q2 p (C m) c k x (Z76 m)
noncomputable def K76_0 (m:Nat) (c:Qd) (t0:AV):Kt:=
 bnd (Z2 97 t0) fun v0=>
 bnd (Qh (C m) 97 v0 1) fun v1=>
 bnd (ldO (C m) 3 v1) fun v2=>
 bnd (Qi (C m) .lss 3 v2 (I 0)) fun v3=>
 Qo (C m) [(none,v3)]
theorem K76_0_eq:D76 m c c76_0 (Z76 m) nx = (a1 (K76_0 m c) 0):=by
  refine Tq (D76 m c (pS1 c76_0) (D76 m c (pS1 (pS2 c76_0)) (Z76 m) nx) nx) (by kernel_rfl) ?_
  kernel_rfl
theorem F76_eq (t0:AV):Qu (C m) c Tryz.f76 [t0] = K76_0 m c t0:=by
  refine Tq ((D76 m c c76_0 (Z76 m) nx) (Xl [t0])) (by kernel_rfl) ?_
  rw [K76_0_eq m c]
  rfl
noncomputable def c77_0:Code:=(Qw Tryz.f77)
noncomputable def Z77 (m:Nat):=fun (e:Nat→AV)=>Qo (C m) (Xh e Tryz.f77.results.toList)
noncomputable def D77 (m:Nat) (c:Qd) (p:Code) (k:TE→Kt) (x:Nat→TE→Kt):=Q2 p (C m) c k x (Z77 m)
noncomputable def K77_0 (m:Nat) (c:Qd) (t0 t1:AV):Kt:=
 bnd (Qy (C m) c (fnV 135) [t0,t1]) fun v0=>
 bnd (Qi (C m) .geq 3 v0 (I 0)) fun v1=>
 Qo (C m) [(none,v1)]
theorem K77_0_eq:D77 m c c77_0 (Z77 m) nx = (a2 (K77_0 m c) 0 1):=by
  refine Tq (D77 m c (pS1 c77_0) (D77 m c (pS1 (pS2 c77_0)) (Z77 m) nx) nx) (by kernel_rfl) ?_
  kernel_rfl
theorem F77_eq (t0 t1:AV):Qu (C m) c Tryz.f77 [t0,t1] = K77_0 m c t0 t1:=by
  refine Tq ((D77 m c c77_0 (Z77 m) nx) (Xl [t0,t1])) (by kernel_rfl) ?_
  rw [K77_0_eq m c]
  rfl
noncomputable def c135_0:Code:=(Qw Tryz.f135)
noncomputable def c135_1:Code:=(pS2 c135_0)
noncomputable def c135_2:Code:=(pS2 c135_1)
noncomputable def c135_3:Code:=(pS2 (pS1 c135_1))
noncomputable def c135_4:Code:=(pL (pB c135_3))
noncomputable def c135_5:Code:=(pS2 c135_4)
noncomputable def c135_6:Code:=(pS2 c135_5)
noncomputable def c135_7:Code:=(pS2 c135_6)
noncomputable def Z135 (m:Nat):=fun (e:Nat→AV)=>Qo (C m) (Xh e Tryz.f135.results.toList)
noncomputable def J3 (m:Nat) (c:Qd) (p:Code) (k:TE→Kt) (x:Nat→TE→Kt):=Q2 p (C m) c k x (Z135 m)
noncomputable def Zy (m:Nat) (c:Qd):Kt:=
 Qo (C m) [(none,(I (-1)))]
theorem K135_2_eq:J3 m c c135_2 (Z135 m) nx = (a0 (Zy m c)):=by
  refine Tq (J3 m c (pS1 c135_2) (Z135 m) nx) (by kernel_rfl) ?_
  kernel_rfl
noncomputable def K135_7 (m:Nat) (c:Qd) (h4:AV→AV→AV→AV→Kt) (t0 t1 t7 t8:AV):Kt:=
 bnd (Qi (C m) .add 3 t8 (I 1)) fun v0=>
 h4 t0 t1 t7 v0
theorem K135_7_eq (h4:AV→AV→AV→AV→Kt):J3 m c c135_7 (a4 h4 0 1 7 8) (Qa 0 (a0 (Zy m c)) nx) = (a4 (K135_7 m c h4) 0 1 7 8):=by
  kernel_rfl
noncomputable def K135_6 (m:Nat) (c:Qd) (h4:AV→AV→AV→AV→Kt) (t0 t1 t7 t8:AV):Kt:=
 bnd (Q9 (C m) 101 t0 t8) fun v0=>
 bnd (ldO (C m) 109 v0) fun v1=>
 bnd (Qy (C m) c t1 [v1]) fun v2=>
 ifB v2
 ((Qo (C m) [(none,t8)]))
 ((K135_7 m c h4 t0 t1 t7 t8))
theorem K135_6_eq (h4:AV→AV→AV→AV→Kt):J3 m c c135_6 (a4 h4 0 1 7 8) (Qa 0 (a0 (Zy m c)) nx) = (a4 (K135_6 m c h4) 0 1 7 8):=by
  refine Tq (J3 m c (pS1 (pB (pS1 c135_6))) (J3 m c (pS1 (pS2 (pB (pS1 c135_6)))) (fun e=>ifB (e 16) ((J3 m c (pS1 (pC1 (pS2 (pS2 (pB (pS1 c135_6)))))) (Z135 m) (Qa 1 (J3 m c c135_7 (a4 h4 0 1 7 8) (Qa 0 (a0 (Zy m c)) nx)) (Qa 0 (a0 (Zy m c)) nx))) e) ((J3 m c c135_7 (a4 h4 0 1 7 8) (Qa 0 (a0 (Zy m c)) nx)) e)) (Qa 1 (J3 m c c135_7 (a4 h4 0 1 7 8) (Qa 0 (a0 (Zy m c)) nx)) (Qa 0 (a0 (Zy m c)) nx))) (Qa 1 (J3 m c c135_7 (a4 h4 0 1 7 8) (Qa 0 (a0 (Zy m c)) nx)) (Qa 0 (a0 (Zy m c)) nx))) (by kernel_rfl) ?_
  rw [K135_7_eq m c h4 ]
  kernel_rfl
noncomputable def K135_5 (m:Nat) (c:Qd) (h4:AV→AV→AV→AV→Kt) (t0 t1 t7 t8 t9:AV):Kt:=
 ifB t9
 ((K135_6 m c h4 t0 t1 t7 t8))
 ((Zy m c))
theorem K135_5_eq (h4:AV→AV→AV→AV→Kt):J3 m c c135_5 (a4 h4 0 1 7 8) (Qa 0 (a0 (Zy m c)) nx) = (a5 (K135_5 m c h4) 0 1 7 8 9):=by
  refine Tq (fun e=>ifB (e 9) ((J3 m c c135_6 (a4 h4 0 1 7 8) (Qa 0 (a0 (Zy m c)) nx)) e) ((a0 (Zy m c)) e)) (by kernel_rfl) ?_
  rw [K135_6_eq m c h4 ]
  kernel_rfl
noncomputable def L135_4_b (m:Nat) (c:Qd) (h4:AV→AV→AV→AV→Kt) (t0 t1 t7 t8:AV):Kt:=
 bnd (Qi (C m) .lss 3 t8 t7) fun v0=>
 K135_5 m c h4 t0 t1 t7 t8 v0
noncomputable def L135_4 (m:Nat) (c:Qd) (n:Nat):AV→AV→AV→AV→Kt:=
 Nat.rec (motive:=fun _=>AV→AV→AV→AV→Kt) (fun t0 t1 t7 t8=>noK) (fun _ ih=>L135_4_b m c ih) n
theorem L135_4_b_eq (h4:AV→AV→AV→AV→Kt):J3 m c c135_4 (a4 h4 0 1 7 8) (Qa 0 (a0 (Zy m c)) nx) = fun e=>L135_4_b m c h4 (e 0) (e 1) (e 7) (e 8):=by
  refine Tq (J3 m c (pS1 c135_4) (J3 m c c135_5 (a4 h4 0 1 7 8) (Qa 0 (a0 (Zy m c)) nx)) (Qa 0 (a0 (Zy m c)) nx)) (by kernel_rfl) ?_
  rw [K135_5_eq m c h4 ]
  kernel_rfl
theorem L135_4_eq (n:Nat):(Qn (fun k=>J3 m c c135_4 k (Qa 0 (a0 (Zy m c)) nx)) n) = (a4 (L135_4 m c n) 0 1 7 8):=by
  induction n with
  | zero=>rfl
  | succ n ih=>
    show J3 m c c135_4 (Qn (fun k=>J3 m c c135_4 k (Qa 0 (a0 (Zy m c)) nx)) n) (Qa 0 (a0 (Zy m c)) nx) = _
    rw [ih,L135_4_b_eq m c (L135_4 m c n)]
    rfl
theorem L135_4_succ (n:Nat):L135_4 m c (n + 1) = L135_4_b m c (L135_4 m c n):=rfl
noncomputable def K135_3 (m:Nat) (c:Qd) (t0 t1 t7 t8:AV):Kt:=
 L135_4 m c m t0 t1 t7 t8
theorem K135_3_eq:J3 m c c135_3 (a0 (Zy m c)) nx = (a4 (K135_3 m c) 0 1 7 8):=by
  refine Tq (Qn (fun k=>J3 m c c135_4 k (Qa 0 (a0 (Zy m c)) nx)) m) (by kernel_rfl) ?_
  rw [L135_4_eq m c m]
  kernel_rfl
noncomputable def K135_1 (m:Nat) (c:Qd) (t0 t1:AV):Kt:=
 bnd (Qv (C m) .len [101] [t0]) fun v0=>
 K135_3 m c t0 t1 v0 (I 0)
theorem K135_1_eq:J3 m c c135_1 (Z135 m) nx = (a2 (K135_1 m c) 0 1):=by
  refine Tq (J3 m c (pS1 (pS1 c135_1)) (J3 m c c135_3 (J3 m c c135_2 (Z135 m) nx) nx) nx) (by kernel_rfl) ?_
  rw [K135_2_eq m c ,K135_3_eq m c ]
  kernel_rfl
noncomputable def K135_0 (m:Nat) (c:Qd) (t0 t1:AV):Kt:=
 K135_1 m c t0 t1
theorem K135_0_eq:J3 m c c135_0 (Z135 m) nx = (a2 (K135_0 m c) 0 1):=by
  refine Tq (J3 m c (pS1 c135_0) (J3 m c c135_1 (Z135 m) nx) nx) (by kernel_rfl) ?_
  rw [K135_1_eq m c ]
  kernel_rfl
theorem F135_eq (t0 t1:AV):Qu (C m) c Tryz.f135 [t0,t1] = K135_0 m c t0 t1:=by
  refine Tq ((J3 m c c135_0 (Z135 m) nx) (Xl [t0,t1])) (by kernel_rfl) ?_
  rw [K135_0_eq m c]
  rfl
noncomputable def c79_0:Code:=(Qw Tryz.f79)
noncomputable def Z79 (m:Nat):=fun (e:Nat→AV)=>Qo (C m) (Xh e Tryz.f79.results.toList)
noncomputable def D79 (m:Nat) (c:Qd) (p:Code) (k:TE→Kt) (x:Nat→TE→Kt):=Q2 p (C m) c k x (Z79 m)
noncomputable def K79_0 (m:Nat) (c:Qd) (t0 t1:AV):Kt:=
 bnd (Qy (C m) c (fnV 136) [t0,t1]) fun v0=>
 bnd (Qi (C m) .geq 3 v0 (I 0)) fun v1=>
 Qo (C m) [(none,v1)]
theorem K79_0_eq:D79 m c c79_0 (Z79 m) nx = (a2 (K79_0 m c) 0 1):=by
  refine Tq (D79 m c (pS1 c79_0) (D79 m c (pS1 (pS2 c79_0)) (Z79 m) nx) nx) (by kernel_rfl) ?_
  kernel_rfl
theorem F79_eq (t0 t1:AV):Qu (C m) c Tryz.f79 [t0,t1] = K79_0 m c t0 t1:=by
  refine Tq ((D79 m c c79_0 (Z79 m) nx) (Xl [t0,t1])) (by kernel_rfl) ?_
  rw [K79_0_eq m c]
  rfl
noncomputable def c136_0:Code:=(Qw Tryz.f136)
noncomputable def c136_1:Code:=(pS2 c136_0)
noncomputable def c136_2:Code:=(pS2 c136_1)
noncomputable def c136_3:Code:=(pS2 (pS1 c136_1))
noncomputable def c136_4:Code:=(pL (pB c136_3))
noncomputable def c136_5:Code:=(pS2 c136_4)
noncomputable def c136_6:Code:=(pS2 c136_5)
noncomputable def c136_7:Code:=(pS2 c136_6)
noncomputable def Z136 (m:Nat):=fun (e:Nat→AV)=>Qo (C m) (Xh e Tryz.f136.results.toList)
noncomputable def J4 (m:Nat) (c:Qd) (p:Code) (k:TE→Kt) (x:Nat→TE→Kt):=Q2 p (C m) c k x (Z136 m)
noncomputable def Zz (m:Nat) (c:Qd):Kt:=
 Qo (C m) [(none,(I (-1)))]
theorem K136_2_eq:J4 m c c136_2 (Z136 m) nx = (a0 (Zz m c)):=by
  refine Tq (J4 m c (pS1 c136_2) (Z136 m) nx) (by kernel_rfl) ?_
  kernel_rfl
noncomputable def K136_7 (m:Nat) (c:Qd) (h4:AV→AV→AV→AV→Kt) (t0 t1 t7 t8:AV):Kt:=
 bnd (Qi (C m) .add 3 t8 (I 1)) fun v0=>
 h4 t0 t1 t7 v0
theorem K136_7_eq (h4:AV→AV→AV→AV→Kt):J4 m c c136_7 (a4 h4 0 1 7 8) (Qa 0 (a0 (Zz m c)) nx) = (a4 (K136_7 m c h4) 0 1 7 8):=by
  kernel_rfl
noncomputable def K136_6 (m:Nat) (c:Qd) (h4:AV→AV→AV→AV→Kt) (t0 t1 t7 t8:AV):Kt:=
 bnd (Q9 (C m) 111 t0 t8) fun v0=>
 bnd (ldO (C m) 117 v0) fun v1=>
 bnd (Qy (C m) c t1 [v1]) fun v2=>
 ifB v2
 ((Qo (C m) [(none,t8)]))
 ((K136_7 m c h4 t0 t1 t7 t8))
theorem K136_6_eq (h4:AV→AV→AV→AV→Kt):J4 m c c136_6 (a4 h4 0 1 7 8) (Qa 0 (a0 (Zz m c)) nx) = (a4 (K136_6 m c h4) 0 1 7 8):=by
  refine Tq (J4 m c (pS1 (pB (pS1 c136_6))) (J4 m c (pS1 (pS2 (pB (pS1 c136_6)))) (fun e=>ifB (e 16) ((J4 m c (pS1 (pC1 (pS2 (pS2 (pB (pS1 c136_6)))))) (Z136 m) (Qa 1 (J4 m c c136_7 (a4 h4 0 1 7 8) (Qa 0 (a0 (Zz m c)) nx)) (Qa 0 (a0 (Zz m c)) nx))) e) ((J4 m c c136_7 (a4 h4 0 1 7 8) (Qa 0 (a0 (Zz m c)) nx)) e)) (Qa 1 (J4 m c c136_7 (a4 h4 0 1 7 8) (Qa 0 (a0 (Zz m c)) nx)) (Qa 0 (a0 (Zz m c)) nx))) (Qa 1 (J4 m c c136_7 (a4 h4 0 1 7 8) (Qa 0 (a0 (Zz m c)) nx)) (Qa 0 (a0 (Zz m c)) nx))) (by kernel_rfl) ?_
  rw [K136_7_eq m c h4 ]
  kernel_rfl
noncomputable def K136_5 (m:Nat) (c:Qd) (h4:AV→AV→AV→AV→Kt) (t0 t1 t7 t8 t9:AV):Kt:=
 ifB t9
 ((K136_6 m c h4 t0 t1 t7 t8))
 ((Zz m c))
theorem K136_5_eq (h4:AV→AV→AV→AV→Kt):J4 m c c136_5 (a4 h4 0 1 7 8) (Qa 0 (a0 (Zz m c)) nx) = (a5 (K136_5 m c h4) 0 1 7 8 9):=by
  refine Tq (fun e=>ifB (e 9) ((J4 m c c136_6 (a4 h4 0 1 7 8) (Qa 0 (a0 (Zz m c)) nx)) e) ((a0 (Zz m c)) e)) (by kernel_rfl) ?_
  rw [K136_6_eq m c h4 ]
  kernel_rfl
noncomputable def L136_4_b (m:Nat) (c:Qd) (h4:AV→AV→AV→AV→Kt) (t0 t1 t7 t8:AV):Kt:=
 bnd (Qi (C m) .lss 3 t8 t7) fun v0=>
 K136_5 m c h4 t0 t1 t7 t8 v0
noncomputable def L136_4 (m:Nat) (c:Qd) (n:Nat):AV→AV→AV→AV→Kt:=
 Nat.rec (motive:=fun _=>AV→AV→AV→AV→Kt) (fun t0 t1 t7 t8=>noK) (fun _ ih=>L136_4_b m c ih) n
theorem L136_4_b_eq (h4:AV→AV→AV→AV→Kt):J4 m c c136_4 (a4 h4 0 1 7 8) (Qa 0 (a0 (Zz m c)) nx) = fun e=>L136_4_b m c h4 (e 0) (e 1) (e 7) (e 8):=by
  refine Tq (J4 m c (pS1 c136_4) (J4 m c c136_5 (a4 h4 0 1 7 8) (Qa 0 (a0 (Zz m c)) nx)) (Qa 0 (a0 (Zz m c)) nx)) (by kernel_rfl) ?_
  rw [K136_5_eq m c h4 ]
  kernel_rfl
theorem L136_4_eq (n:Nat):(Qn (fun k=>J4 m c c136_4 k (Qa 0 (a0 (Zz m c)) nx)) n) = (a4 (L136_4 m c n) 0 1 7 8):=by
  induction n with
  | zero=>rfl
  | succ n ih=>
    show J4 m c c136_4 (Qn (fun k=>J4 m c c136_4 k (Qa 0 (a0 (Zz m c)) nx)) n) (Qa 0 (a0 (Zz m c)) nx) = _
    rw [ih,L136_4_b_eq m c (L136_4 m c n)]
    rfl
theorem L136_4_succ (n:Nat):L136_4 m c (n + 1) = L136_4_b m c (L136_4 m c n):=rfl
noncomputable def K136_3 (m:Nat) (c:Qd) (t0 t1 t7 t8:AV):Kt:=
 L136_4 m c m t0 t1 t7 t8
theorem K136_3_eq:J4 m c c136_3 (a0 (Zz m c)) nx = (a4 (K136_3 m c) 0 1 7 8):=by
  refine Tq (Qn (fun k=>J4 m c c136_4 k (Qa 0 (a0 (Zz m c)) nx)) m) (by kernel_rfl) ?_
  rw [L136_4_eq m c m]
  kernel_rfl
noncomputable def K136_1 (m:Nat) (c:Qd) (t0 t1:AV):Kt:=
 bnd (Qv (C m) .len [111] [t0]) fun v0=>
 K136_3 m c t0 t1 v0 (I 0)
theorem K136_1_eq:J4 m c c136_1 (Z136 m) nx = (a2 (K136_1 m c) 0 1):=by
  refine Tq (J4 m c (pS1 (pS1 c136_1)) (J4 m c c136_3 (J4 m c c136_2 (Z136 m) nx) nx) nx) (by kernel_rfl) ?_
  rw [K136_2_eq m c ,K136_3_eq m c ]
  kernel_rfl
noncomputable def K136_0 (m:Nat) (c:Qd) (t0 t1:AV):Kt:=
 K136_1 m c t0 t1
theorem K136_0_eq:J4 m c c136_0 (Z136 m) nx = (a2 (K136_0 m c) 0 1):=by
  refine Tq (J4 m c (pS1 c136_0) (J4 m c c136_1 (Z136 m) nx) nx) (by kernel_rfl) ?_
  rw [K136_1_eq m c ]
  kernel_rfl
theorem F136_eq (t0 t1:AV):Qu (C m) c Tryz.f136 [t0,t1] = K136_0 m c t0 t1:=by
  refine Tq ((J4 m c c136_0 (Z136 m) nx) (Xl [t0,t1])) (by kernel_rfl) ?_
  rw [K136_0_eq m c]
  rfl
noncomputable def c80_0:Code:=(Qw Tryz.f80)
noncomputable def Z80 (m:Nat):=fun (e:Nat→AV)=>Qo (C m) (Xh e Tryz.f80.results.toList)
noncomputable def D80 (m:Nat) (c:Qd) (p:Code) (k:TE→Kt) (x:Nat→TE→Kt):=Q2 p (C m) c k x (Z80 m)
noncomputable def K80_0 (m:Nat) (c:Qd) (t0:AV):Kt:=
 bnd (Z2 117 t0) fun v0=>
 bnd (Qh (C m) 117 v0 1) fun v1=>
 bnd (ldO (C m) 9 v1) fun v2=>
 bnd (Qi (C m) .neq 9 v2 (S [])) fun v3=>
 bnd (gdO (Qc v3 true) (Qh (C m) 117 v0 1)) fun v4=>
 bnd (gdO (Qc v3 true) (ldO (C m) 9 v4)) fun v5=>
 bnd (gdO (Qc v3 true) (Qv (C m) .len [9] [v5])) fun v6=>
 bnd (gdO (Qc v3 true) (Qi (C m) .neq 3 v6 (I 16))) fun v7=>
 bnd (Qm v3 v7 (B false)) fun v8=>
 Qo (C m) [(none,v8)]
theorem K80_0_eq:D80 m c c80_0 (Z80 m) nx = (a1 (K80_0 m c) 0):=by
  refine Tq (D80 m c (pS1 c80_0) (D80 m c (pS1 (pS2 c80_0)) (Z80 m) nx) nx) (by kernel_rfl) ?_
  kernel_rfl
theorem F80_eq (t0:AV):Qu (C m) c Tryz.f80 [t0] = K80_0 m c t0:=by
  refine Tq ((D80 m c c80_0 (Z80 m) nx) (Xl [t0])) (by kernel_rfl) ?_
  rw [K80_0_eq m c]
  rfl
end Go.Proofs.YtjfgdcegpgoobaaGreatDoor
