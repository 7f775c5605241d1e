/- Functions of the program as plain functions over the interpreter's words, and the theorems that they are what the interpreter makes of the code. -/
import Derived.Test.YtjfgdcegpgoobaaGreatDoorCx
set_option linter.unusedVariables false
namespace Go.Proofs.YtjfgdcegpgoobaaGreatDoor
open Go.Run
set_option maxRecDepth 100000
open Go
variable (m:Nat) (c:Qd)
noncomputable def c84_0:Code:=(Qw Tryz.f84)
noncomputable def c84_1:Code:=(pS2 c84_0)
noncomputable def c84_2:Code:=(pS2 c84_1)
noncomputable def c84_3:Code:=(pS2 c84_2)
noncomputable def Z84 (m:Nat):=fun (e:Nat→AV)=>Qo (C m) (Xh e Tryz.f84.results.toList)
noncomputable def D84 (m:Nat) (c:Qd) (p:Code) (k:TE→Kt) (x:Nat→TE→Kt):=Q2 p (C m) c k x (Z84 m)
noncomputable def K84_3 (m:Nat) (c:Qd) (t0:AV):Kt:=
 Qo (C m) [(none,t0)]
theorem K84_3_eq:D84 m c c84_3 (Z84 m) nx = (a1 (K84_3 m c) 0):=by
  refine Tq (D84 m c (pS1 c84_3) (Z84 m) nx) (by kernel_rfl) ?_
  kernel_rfl
noncomputable def K84_2 (m:Nat) (c:Qd) (t0:AV):Kt:=
 bnd (Qi (C m) .geq 22 t0 (Iu 2305843009213693951)) fun v0=>
 ifB v0
 ((bnd (Qi (C m) .sub 22 t0 (Iu 2305843009213693951)) fun v1=>
 K84_3 m c v1))
 ((K84_3 m c t0))
theorem K84_2_eq:D84 m c c84_2 (Z84 m) nx = (a1 (K84_2 m c) 0):=by
  refine Tq (D84 m c (pS1 (pS1 c84_2)) (fun e=>ifB (e 9) ((D84 m c (pC1 (pS2 (pS1 c84_2))) (D84 m c c84_3 (Z84 m) nx) nx) e) ((D84 m c c84_3 (Z84 m) nx) e)) nx) (by kernel_rfl) ?_
  rw [K84_3_eq m c ]
  kernel_rfl
noncomputable def K84_1 (m:Nat) (c:Qd) (t0:AV):Kt:=
 bnd (Qi (C m) .and 22 t0 (Iu 2305843009213693951)) fun v0=>
 bnd (Qi (C m) .shr 22 t0 (Iu 61)) fun v1=>
 bnd (Qi (C m) .add 22 v0 v1) fun v2=>
 K84_2 m c v2
theorem K84_1_eq:D84 m c c84_1 (Z84 m) nx = (a1 (K84_1 m c) 0):=by
  refine Tq (D84 m c (pS1 c84_1) (D84 m c c84_2 (Z84 m) nx) nx) (by kernel_rfl) ?_
  rw [K84_2_eq m c ]
  kernel_rfl
noncomputable def K84_0 (m:Nat) (c:Qd) (t0:AV):Kt:=
 K84_1 m c t0
theorem K84_0_eq:D84 m c c84_0 (Z84 m) nx = (a1 (K84_0 m c) 0):=by
  refine Tq (D84 m c (pS1 c84_0) (D84 m c c84_1 (Z84 m) nx) nx) (by kernel_rfl) ?_
  rw [K84_1_eq m c ]
  kernel_rfl
theorem F84_eq (t0:AV):Qu (C m) c Tryz.f84 [t0] = K84_0 m c t0:=by
  refine Tq ((D84 m c c84_0 (Z84 m) nx) (Xl [t0])) (by kernel_rfl) ?_
  rw [K84_0_eq m c]
  rfl
noncomputable def c85_0:Code:=(Qw Tryz.f85)
noncomputable def c85_1:Code:=(pS2 c85_0)
noncomputable def c85_2:Code:=(pS2 c85_1)
noncomputable def c85_3:Code:=(pS2 c85_2)
noncomputable def c85_4:Code:=(pS2 c85_3)
noncomputable def c85_5:Code:=(pS2 c85_4)
noncomputable def c85_6:Code:=(pS2 c85_5)
noncomputable def c85_7:Code:=(pS2 c85_6)
noncomputable def c85_8:Code:=(pS2 c85_7)
noncomputable def Z85 (m:Nat):=fun (e:Nat→AV)=>Qo (C m) (Xh e Tryz.f85.results.toList)
noncomputable def D85 (m:Nat) (c:Qd) (p:Code) (k:TE→Kt) (x:Nat→TE→Kt):=Q2 p (C m) c k x (Z85 m)
noncomputable def K85_8 (m:Nat) (c:Qd) (t0 t1 t6 t7 t9 t11 t12:AV):Kt:=
 bnd (Qi (C m) .shr 22 t11 (Iu 32)) fun v0=>
 bnd (Qi (C m) .mul 22 t6 t9) fun v1=>
 bnd (Qi (C m) .add 22 t12 v1) fun v2=>
 bnd (Qi (C m) .mul 22 t7 t9) fun v3=>
 bnd (Qi (C m) .add 22 v3 v0) fun v4=>
 bnd (Qi (C m) .shr 22 v2 (Iu 32)) fun v5=>
 bnd (Qi (C m) .add 22 v4 v5) fun v6=>
 bnd (Qi (C m) .mul 22 t0 t1) fun v7=>
 Qo (C m) [(none,v6),(none,v7)]
theorem K85_8_eq:D85 m c c85_8 (Z85 m) nx = (a7 (K85_8 m c) 0 1 6 7 9 11 12):=by
  refine Tq (D85 m c (pS1 c85_8) (D85 m c (pS1 (pS2 c85_8)) (D85 m c (pS1 (pS2 (pS2 c85_8))) (D85 m c (pS1 (pS2 (pS2 (pS2 c85_8)))) (Z85 m) nx) nx) nx) nx) (by kernel_rfl) ?_
  kernel_rfl
noncomputable def K85_7 (m:Nat) (c:Qd) (t0 t1 t6 t7 t9 t11:AV):Kt:=
 bnd (Qi (C m) .and 22 t11 (Iu 4294967295)) fun v0=>
 K85_8 m c t0 t1 t6 t7 t9 t11 v0
theorem K85_7_eq:D85 m c c85_7 (Z85 m) nx = (a6 (K85_7 m c) 0 1 6 7 9 11):=by
  refine Tq (D85 m c (pS1 c85_7) (D85 m c c85_8 (Z85 m) nx) nx) (by kernel_rfl) ?_
  rw [K85_8_eq m c ]
  kernel_rfl
noncomputable def K85_6 (m:Nat) (c:Qd) (t0 t1 t6 t7 t8 t9 t10:AV):Kt:=
 bnd (Qi (C m) .mul 22 t7 t8) fun v0=>
 bnd (Qi (C m) .shr 22 t10 (Iu 32)) fun v1=>
 bnd (Qi (C m) .add 22 v0 v1) fun v2=>
 K85_7 m c t0 t1 t6 t7 t9 v2
theorem K85_6_eq:D85 m c c85_6 (Z85 m) nx = (a7 (K85_6 m c) 0 1 6 7 8 9 10):=by
  refine Tq (D85 m c (pS1 c85_6) (D85 m c c85_7 (Z85 m) nx) nx) (by kernel_rfl) ?_
  rw [K85_7_eq m c ]
  kernel_rfl
noncomputable def K85_5 (m:Nat) (c:Qd) (t0 t1 t6 t7 t8 t9:AV):Kt:=
 bnd (Qi (C m) .mul 22 t6 t8) fun v0=>
 K85_6 m c t0 t1 t6 t7 t8 t9 v0
theorem K85_5_eq:D85 m c c85_5 (Z85 m) nx = (a6 (K85_5 m c) 0 1 6 7 8 9):=by
  refine Tq (D85 m c (pS1 c85_5) (D85 m c c85_6 (Z85 m) nx) nx) (by kernel_rfl) ?_
  rw [K85_6_eq m c ]
  kernel_rfl
noncomputable def K85_4 (m:Nat) (c:Qd) (t0 t1 t6 t7 t8:AV):Kt:=
 bnd (Qi (C m) .shr 22 t1 (Iu 32)) fun v0=>
 K85_5 m c t0 t1 t6 t7 t8 v0
theorem K85_4_eq:D85 m c c85_4 (Z85 m) nx = (a5 (K85_4 m c) 0 1 6 7 8):=by
  refine Tq (D85 m c (pS1 c85_4) (D85 m c c85_5 (Z85 m) nx) nx) (by kernel_rfl) ?_
  rw [K85_5_eq m c ]
  kernel_rfl
noncomputable def K85_3 (m:Nat) (c:Qd) (t0 t1 t6 t7:AV):Kt:=
 bnd (Qi (C m) .and 22 t1 (Iu 4294967295)) fun v0=>
 K85_4 m c t0 t1 t6 t7 v0
theorem K85_3_eq:D85 m c c85_3 (Z85 m) nx = (a4 (K85_3 m c) 0 1 6 7):=by
  refine Tq (D85 m c (pS1 c85_3) (D85 m c c85_4 (Z85 m) nx) nx) (by kernel_rfl) ?_
  rw [K85_4_eq m c ]
  kernel_rfl
noncomputable def K85_2 (m:Nat) (c:Qd) (t0 t1 t6:AV):Kt:=
 bnd (Qi (C m) .shr 22 t0 (Iu 32)) fun v0=>
 K85_3 m c t0 t1 t6 v0
theorem K85_2_eq:D85 m c c85_2 (Z85 m) nx = (a3 (K85_2 m c) 0 1 6):=by
  refine Tq (D85 m c (pS1 c85_2) (D85 m c c85_3 (Z85 m) nx) nx) (by kernel_rfl) ?_
  rw [K85_3_eq m c ]
  kernel_rfl
noncomputable def K85_1 (m:Nat) (c:Qd) (t0 t1:AV):Kt:=
 bnd (Qi (C m) .and 22 t0 (Iu 4294967295)) fun v0=>
 K85_2 m c t0 t1 v0
theorem K85_1_eq:D85 m c c85_1 (Z85 m) nx = (a2 (K85_1 m c) 0 1):=by
  refine Tq (D85 m c (pS1 c85_1) (D85 m c c85_2 (Z85 m) nx) nx) (by kernel_rfl) ?_
  rw [K85_2_eq m c ]
  kernel_rfl
noncomputable def K85_0 (m:Nat) (c:Qd) (t0 t1:AV):Kt:=
 K85_1 m c t0 t1
theorem K85_0_eq:D85 m c c85_0 (Z85 m) nx = (a2 (K85_0 m c) 0 1):=by
  refine Tq (D85 m c (pS1 c85_0) (D85 m c c85_1 (Z85 m) nx) nx) (by kernel_rfl) ?_
  rw [K85_1_eq m c ]
  kernel_rfl
theorem F85_eq (t0 t1:AV):Qu (C m) c Tryz.f85 [t0,t1] = K85_0 m c t0 t1:=by
  refine Tq ((D85 m c c85_0 (Z85 m) nx) (Xl [t0,t1])) (by kernel_rfl) ?_
  rw [K85_0_eq m c]
  rfl
noncomputable def c37_0:Code:=(Qw Tryz.f37)
noncomputable def Z37 (m:Nat):=fun (e:Nat→AV)=>Qo (C m) (Xh e Tryz.f37.results.toList)
noncomputable def D37 (m:Nat) (c:Qd) (p:Code) (k:TE→Kt) (x:Nat→TE→Kt):=Q2 p (C m) c k x (Z37 m)
noncomputable def K37_0 (m:Nat) (c:Qd) (t0 t1:AV):Kt:=
 bnd (Qy (C m) c (fnV 84) [t0]) fun v0=>
 bnd (Qy (C m) c (fnV 84) [t1]) fun v1=>
 bnd (Qy (C m) c (fnV 85) [v0,v1]) fun v2=>
 bnd (Vz v2 0) fun v3=>
 bnd (Vz v2 1) fun v4=>
 bnd (Qi (C m) .and 22 v4 (Iu 2305843009213693951)) fun v5=>
 bnd (Qi (C m) .shr 22 v4 (Iu 61)) fun v6=>
 bnd (Qi (C m) .shl 22 v3 (Iu 3)) fun v7=>
 bnd (Qi (C m) .or 22 v6 v7) fun v8=>
 bnd (Qi (C m) .add 22 v5 v8) fun v9=>
 bnd (Qy (C m) c (fnV 84) [v9]) fun v10=>
 Qo (C m) [(none,v10)]
theorem K37_0_eq:D37 m c c37_0 (Z37 m) nx = (a2 (K37_0 m c) 0 1):=by
  refine Tq (D37 m c (pS1 c37_0) (D37 m c (pS1 (pS2 c37_0)) (D37 m c (pS1 (pS2 (pS2 c37_0))) (Z37 m) nx) nx) nx) (by kernel_rfl) ?_
  kernel_rfl
theorem F37_eq (t0 t1:AV):Qu (C m) c Tryz.f37 [t0,t1] = K37_0 m c t0 t1:=by
  refine Tq ((D37 m c c37_0 (Z37 m) nx) (Xl [t0,t1])) (by kernel_rfl) ?_
  rw [K37_0_eq m c]
  rfl
noncomputable def c36_0:Code:=(Qw Tryz.f36)
noncomputable def Z36 (m:Nat):=fun (e:Nat→AV)=>Qo (C m) (Xh e Tryz.f36.results.toList)
noncomputable def D36 (m:Nat) (c:Qd) (p:Code) (k:TE→Kt) (x:Nat→TE→Kt):=Q2 p (C m) c k x (Z36 m)
noncomputable def K36_0 (m:Nat) (c:Qd) (t0 t1:AV):Kt:=
 bnd (Qy (C m) c (fnV 84) [t0]) fun v0=>
 bnd (Qy (C m) c (fnV 84) [t1]) fun v1=>
 bnd (Qi (C m) .add 22 v0 v1) fun v2=>
 bnd (Qy (C m) c (fnV 84) [v2]) fun v3=>
 Qo (C m) [(none,v3)]
theorem K36_0_eq:D36 m c c36_0 (Z36 m) nx = (a2 (K36_0 m c) 0 1):=by
  refine Tq (D36 m c (pS1 c36_0) (D36 m c (pS1 (pS2 c36_0)) (Z36 m) nx) nx) (by kernel_rfl) ?_
  kernel_rfl
theorem F36_eq (t0 t1:AV):Qu (C m) c Tryz.f36 [t0,t1] = K36_0 m c t0 t1:=by
  refine Tq ((D36 m c c36_0 (Z36 m) nx) (Xl [t0,t1])) (by kernel_rfl) ?_
  rw [K36_0_eq m c]
  rfl
noncomputable def c12_0:Code:=(Qw Tryz.f12)
noncomputable def Z12 (m:Nat):=fun (e:Nat→AV)=>Qo (C m) (Xh e Tryz.f12.results.toList)
noncomputable def D12 (m:Nat) (c:Qd) (p:Code) (k:TE→Kt) (x:Nat→TE→Kt):=Q2 p (C m) c k x (Z12 m)
noncomputable def K12_0 (m:Nat) (c:Qd) (t0 t1:AV):Kt:=
 bnd (Qy (C m) c (fnV 36) [t0,(Iu 3)]) fun v0=>
 bnd (Qv (C m) .max [3,3] [t1,(I 0)]) fun v1=>
 bnd (cvO (C m) 3 22 v1) fun v2=>
 bnd (Qy (C m) c (fnV 36) [v2,(Iu 2)]) fun v3=>
 bnd (Qy (C m) c (fnV 37) [v0,v3]) fun v4=>
 bnd (Qy (C m) c (fnV 36) [v4,(Iu 5)]) fun v5=>
 bnd (Qy (C m) c (fnV 37) [v5,v5]) fun v6=>
 Qo (C m) [(none,v6)]
theorem K12_0_eq:D12 m c c12_0 (Z12 m) nx = (a2 (K12_0 m c) 0 1):=by
  refine Tq (D12 m c (pS1 c12_0) (D12 m c (pS1 (pS2 c12_0)) (D12 m c (pS1 (pS2 (pS2 c12_0))) (Z12 m) nx) nx) nx) (by kernel_rfl) ?_
  kernel_rfl
theorem F12_eq (t0 t1:AV):Qu (C m) c Tryz.f12 [t0,t1] = K12_0 m c t0 t1:=by
  refine Tq ((D12 m c c12_0 (Z12 m) nx) (Xl [t0,t1])) (by kernel_rfl) ?_
  rw [K12_0_eq m c]
  rfl
noncomputable def c35_0:Code:=(Qw Tryz.f35)
noncomputable def c35_1:Code:=(pS2 c35_0)
noncomputable def c35_2:Code:=(pS2 c35_1)
noncomputable def c35_3:Code:=(pS2 c35_2)
noncomputable def c35_4:Code:=(pS2 c35_3)
noncomputable def c35_5:Code:=(pS2 (pS1 c35_3))
noncomputable def c35_6:Code:=(pL (pB c35_5))
noncomputable def c35_7:Code:=(pS2 c35_6)
noncomputable def c35_8:Code:=(pS2 c35_7)
noncomputable def c35_9:Code:=(pS2 c35_8)
noncomputable def Z35 (m:Nat):=fun (e:Nat→AV)=>Qo (C m) (Xh e Tryz.f35.results.toList)
noncomputable def D35 (m:Nat) (c:Qd) (p:Code) (k:TE→Kt) (x:Nat→TE→Kt):=Q2 p (C m) c k x (Z35 m)
noncomputable def Jk (m:Nat) (c:Qd) (t8 t10:AV):Kt:=
 bnd (ldO (C m) 29 t10) fun v0=>
 bnd (stO (C m) 29 t8 v0) fun _=>
 Qo (C m) [(some 29,t8),(none,(I 0))]
theorem K35_4_eq:D35 m c c35_4 (Z35 m) nx = (a2 (Jk m c) 8 10):=by
  refine Tq (D35 m c (pS1 c35_4) (Z35 m) nx) (by kernel_rfl) ?_
  kernel_rfl
noncomputable def K35_9 (m:Nat) (c:Qd) (h6:AV→AV→AV→AV→AV→Kt) (t2 t8 t10 t37 t38:AV):Kt:=
 bnd (Qi (C m) .add 3 t38 (I 1)) fun v0=>
 h6 t2 t8 t10 t37 v0
theorem K35_9_eq (h6:AV→AV→AV→AV→AV→Kt):D35 m c c35_9 (a5 h6 2 8 10 37 38) (Qa 0 (a2 (Jk m c) 8 10) nx) = (a5 (K35_9 m c h6) 2 8 10 37 38):=by
  kernel_rfl
noncomputable def K35_8 (m:Nat) (c:Qd) (h6:AV→AV→AV→AV→AV→Kt) (t2 t8 t10 t37 t38:AV):Kt:=
 atN 8 fun v0=>
 dIn fun sv0=>
 Qk (Qh (C m) 29 t10 2) fun v1=>
 Qr (ldO (C m) 27 v1) fun v2=>
 Vw (mksO (C m) 25 t2 t2) (Nat.add v0 3) fun v3=>
 Vw (Vi (C m) 27 1 [(0,v3)]) (Nat.add v0 4) fun v4=>
 Xn (Qv (C m) .append [27,27] [v2,v4]) fun v5 sv5=>
 Qk (Qh (C m) 29 t10 2) fun v6=>
 Xn (stO (C m) 27 v6 v5) fun v7 sv7=>
 K35_9 m c h6 t2 t8 t10 t37 t38
theorem K35_8_eq (h6:AV→AV→AV→AV→AV→Kt):D35 m c c35_8 (a5 h6 2 8 10 37 38) (Qa 0 (a2 (Jk m c) 8 10) nx) = (a5 (K35_8 m c h6) 2 8 10 37 38):=by
  refine Tq (D35 m c (pB (pS1 c35_8)) (D35 m c c35_9 (a5 h6 2 8 10 37 38) (Qa 0 (a2 (Jk m c) 8 10) nx)) (Qa 1 (D35 m c c35_9 (a5 h6 2 8 10 37 38) (Qa 0 (a2 (Jk m c) 8 10) nx)) (Qa 0 (a2 (Jk m c) 8 10) nx))) (by kernel_rfl) ?_
  rw [K35_9_eq m c h6 ]
  kernel_rfl
noncomputable def K35_7 (m:Nat) (c:Qd) (h6:AV→AV→AV→AV→AV→Kt) (t2 t8 t10 t37 t38 t39:AV):Kt:=
 ifB t39
 ((K35_8 m c h6 t2 t8 t10 t37 t38))
 ((Jk m c t8 t10))
theorem K35_7_eq (h6:AV→AV→AV→AV→AV→Kt):D35 m c c35_7 (a5 h6 2 8 10 37 38) (Qa 0 (a2 (Jk m c) 8 10) nx) = (a6 (K35_7 m c h6) 2 8 10 37 38 39):=by
  refine Tq (fun e=>ifB (e 39) ((D35 m c c35_8 (a5 h6 2 8 10 37 38) (Qa 0 (a2 (Jk m c) 8 10) nx)) e) ((a2 (Jk m c) 8 10) e)) (by kernel_rfl) ?_
  rw [K35_8_eq m c h6 ]
  kernel_rfl
noncomputable def L35_6_b (m:Nat) (c:Qd) (h6:AV→AV→AV→AV→AV→Kt) (t2 t8 t10 t37 t38:AV):Kt:=
 bnd (Qi (C m) .lss 3 t38 t37) fun v0=>
 K35_7 m c h6 t2 t8 t10 t37 t38 v0
noncomputable def L35_6 (m:Nat) (c:Qd) (n:Nat):AV→AV→AV→AV→AV→Kt:=
 Nat.rec (motive:=fun _=>AV→AV→AV→AV→AV→Kt) (fun t2 t8 t10 t37 t38=>noK) (fun _ ih=>L35_6_b m c ih) n
theorem L35_6_b_eq (h6:AV→AV→AV→AV→AV→Kt):D35 m c c35_6 (a5 h6 2 8 10 37 38) (Qa 0 (a2 (Jk m c) 8 10) nx) = fun e=>L35_6_b m c h6 (e 2) (e 8) (e 10) (e 37) (e 38):=by
  refine Tq (D35 m c (pS1 c35_6) (D35 m c c35_7 (a5 h6 2 8 10 37 38) (Qa 0 (a2 (Jk m c) 8 10) nx)) (Qa 0 (a2 (Jk m c) 8 10) nx)) (by kernel_rfl) ?_
  rw [K35_7_eq m c h6 ]
  kernel_rfl
theorem L35_6_eq (n:Nat):(Qn (fun k=>D35 m c c35_6 k (Qa 0 (a2 (Jk m c) 8 10) nx)) n) = (a5 (L35_6 m c n) 2 8 10 37 38):=by
  induction n with
  | zero=>rfl
  | succ n ih=>
    show D35 m c c35_6 (Qn (fun k=>D35 m c c35_6 k (Qa 0 (a2 (Jk m c) 8 10) nx)) n) (Qa 0 (a2 (Jk m c) 8 10) nx) = _
    rw [ih,L35_6_b_eq m c (L35_6 m c n)]
    rfl
theorem L35_6_succ (n:Nat):L35_6 m c (n + 1) = L35_6_b m c (L35_6 m c n):=rfl
noncomputable def K35_5 (m:Nat) (c:Qd) (t2 t8 t10 t37 t38:AV):Kt:=
 L35_6 m c m t2 t8 t10 t37 t38
theorem K35_5_eq:D35 m c c35_5 (a2 (Jk m c) 8 10) nx = (a5 (K35_5 m c) 2 8 10 37 38):=by
  refine Tq (Qn (fun k=>D35 m c c35_6 k (Qa 0 (a2 (Jk m c) 8 10) nx)) m) (by kernel_rfl) ?_
  rw [L35_6_eq m c m]
  kernel_rfl
noncomputable def K35_3 (m:Nat) (c:Qd) (t1 t2 t8 t10:AV):Kt:=
 K35_5 m c t2 t8 t10 t1 (I 0)
theorem K35_3_eq:D35 m c c35_3 (Z35 m) nx = (a4 (K35_3 m c) 1 2 8 10):=by
  refine Tq (D35 m c (pS1 (pS1 c35_3)) (D35 m c c35_5 (D35 m c c35_4 (Z35 m) nx) nx) nx) (by kernel_rfl) ?_
  rw [K35_4_eq m c ,K35_5_eq m c ]
  kernel_rfl
noncomputable def K35_2 (m:Nat) (c:Qd) (t0 t1 t2 t3 t8:AV):Kt:=
 bnd (Xp (C m) 29 [(0,t0),(1,t3)]) fun v0=>
 bnd (Xe (C m) 29) fun v1=>
 bnd (stO (C m) 29 v1 v0) fun _=>
 K35_3 m c t1 t2 t8 v1
theorem K35_2_eq:D35 m c c35_2 (Z35 m) nx = (a5 (K35_2 m c) 0 1 2 3 8):=by
  refine Tq (D35 m c (pS1 c35_2) (D35 m c c35_3 (Z35 m) nx) nx) (by kernel_rfl) ?_
  rw [K35_3_eq m c ]
  kernel_rfl
noncomputable def K35_1 (m:Nat) (c:Qd) (t0 t1 t2 t3 t8:AV):Kt:=
 bnd (Qi (C m) .lss 3 t1 (I 1)) fun v0=>
 bnd (gdO (Qc v0 false) (fun _=>.val t1)) fun v1=>
 bnd (gdO (Qc v0 false) (Qi (C m) .gtr 3 v1 (I 7))) fun v2=>
 bnd (Qm v0 (B true) v2) fun v3=>
 bnd (gdO (Qc v3 false) (fun _=>.val t2)) fun v4=>
 bnd (gdO (Qc v3 false) (Qi (C m) .lss 3 v4 (I 1))) fun v5=>
 bnd (Qm v3 (B true) v5) fun v6=>
 bnd (gdO (Qc v6 false) (fun _=>.val t2)) fun v7=>
 bnd (gdO (Qc v6 false) (Qi (C m) .gtr 3 v7 (I 256))) fun v8=>
 bnd (Qm v6 (B true) v8) fun v9=>
 bnd (gdO (Qc v9 false) (fun _=>.val t3)) fun v10=>
 bnd (gdO (Qc v9 false) (Qi (C m) .lss 3 v10 (I 1))) fun v11=>
 bnd (Qm v9 (B true) v11) fun v12=>
 bnd (gdO (Qc v12 false) (fun _=>.val t3)) fun v13=>
 bnd (gdO (Qc v12 false) (Qi (C m) .gtr 3 v13 (I 1099511627776))) fun v14=>
 bnd (Qm v12 (B true) v14) fun v15=>
 ifB v15
 ((bnd (Xp (C m) 29 []) fun v16=>
 bnd (stO (C m) 29 t8 v16) fun _=>
 Qo (C m) [(some 29,t8),(none,(I 1))]))
 ((K35_2 m c t0 t1 t2 t3 t8))
theorem K35_1_eq:D35 m c c35_1 (Z35 m) nx = (a5 (K35_1 m c) 0 1 2 3 8):=by
  refine Tq (D35 m c (pS1 (pS1 c35_1)) (fun e=>ifB (e 32) ((D35 m c (pS1 (pC1 (pS2 (pS1 c35_1)))) (Z35 m) nx) e) ((D35 m c c35_2 (Z35 m) nx) e)) nx) (by kernel_rfl) ?_
  rw [K35_2_eq m c ]
  kernel_rfl
noncomputable def K35_0 (m:Nat) (c:Qd) (t0 t1 t2 t3:AV):Kt:=
 bnd (Xe (C m) 29) fun v0=>
 K35_1 m c t0 t1 t2 t3 v0
theorem K35_0_eq:D35 m c c35_0 (Z35 m) nx = (a4 (K35_0 m c) 0 1 2 3):=by
  refine Tq (D35 m c (pS1 c35_0) (D35 m c c35_1 (Z35 m) nx) nx) (by kernel_rfl) ?_
  rw [K35_1_eq m c ]
  kernel_rfl
theorem F35_eq (t0 t1 t2 t3:AV):Qu (C m) c Tryz.f35 [t0,t1,t2,t3] = K35_0 m c t0 t1 t2 t3:=by
  refine Tq ((D35 m c c35_0 (Z35 m) nx) (Xl [t0,t1,t2,t3])) (by kernel_rfl) ?_
  rw [K35_0_eq m c]
  rfl
noncomputable def c86_0:Code:=(Qw Tryz.f86)
noncomputable def Z86 (m:Nat):=fun (e:Nat→AV)=>Qo (C m) (Xh e Tryz.f86.results.toList)
noncomputable def D86 (m:Nat) (c:Qd) (p:Code) (k:TE→Kt) (x:Nat→TE→Kt):=Q2 p (C m) c k x (Z86 m)
noncomputable def K86_0 (m:Nat) (c:Qd) (t0:AV):Kt:=
 bnd (Z2 34 t0) fun v0=>
 bnd (Qh (C m) 34 v0 1) fun v1=>
 bnd (ldO (C m) 3 v1) fun v2=>
 bnd (Qi (C m) .geq 3 v2 (I 1)) fun v3=>
 bnd (gdO (Qc v3 true) (Qh (C m) 34 v0 1)) fun v4=>
 bnd (gdO (Qc v3 true) (ldO (C m) 3 v4)) fun v5=>
 bnd (gdO (Qc v3 true) (Qi (C m) .leq 3 v5 (I 7))) fun v6=>
 bnd (Qm v3 v6 (B false)) fun v7=>
 bnd (gdO (Qc v7 true) (Qh (C m) 34 v0 2)) fun v8=>
 bnd (gdO (Qc v7 true) (ldO (C m) 32 v8)) fun v9=>
 bnd (gdO (Qc v7 true) (Qv (C m) .len [32] [v9])) fun v10=>
 bnd (gdO (Qc v7 true) (Qi (C m) .geq 3 v10 (I 1))) fun v11=>
 bnd (Qm v7 v11 (B false)) fun v12=>
 bnd (gdO (Qc v12 true) (Qh (C m) 34 v0 2)) fun v13=>
 bnd (gdO (Qc v12 true) (ldO (C m) 32 v13)) fun v14=>
 bnd (gdO (Qc v12 true) (Qv (C m) .len [32] [v14])) fun v15=>
 bnd (gdO (Qc v12 true) (Qi (C m) .leq 3 v15 (I 256))) fun v16=>
 bnd (Qm v12 v16 (B false)) fun v17=>
 Qo (C m) [(none,v17)]
theorem K86_0_eq:D86 m c c86_0 (Z86 m) nx = (a1 (K86_0 m c) 0):=by
  refine Tq (D86 m c (pS1 c86_0) (D86 m c (pS1 (pS2 c86_0)) (Z86 m) nx) nx) (by kernel_rfl) ?_
  kernel_rfl
theorem F86_eq (t0:AV):Qu (C m) c Tryz.f86 [t0] = K86_0 m c t0:=by
  refine Tq ((D86 m c c86_0 (Z86 m) nx) (Xl [t0])) (by kernel_rfl) ?_
  rw [K86_0_eq m c]
  rfl
noncomputable def c38_0:Code:=(Qw Tryz.f38)
noncomputable def c38_1:Code:=(pS2 c38_0)
noncomputable def c38_2:Code:=(pS2 c38_1)
noncomputable def Z38 (m:Nat):=fun (e:Nat→AV)=>Qo (C m) (Xh e Tryz.f38.results.toList)
noncomputable def D38 (m:Nat) (c:Qd) (p:Code) (k:TE→Kt) (x:Nat→TE→Kt):=Q2 p (C m) c k x (Z38 m)
noncomputable def K38_2 (m:Nat) (c:Qd) (t0 t1 t2 t6:AV):Kt:=
 bnd (mksO (C m) 32 t1 t1) fun v0=>
 bnd (Xp (C m) 34 [(0,t0),(1,t2),(2,v0)]) fun v1=>
 bnd (Xe (C m) 34) fun v2=>
 bnd (stO (C m) 34 v2 v1) fun _=>
 bnd (ldO (C m) 34 v2) fun v3=>
 bnd (Qy (C m) c (fnV 86) [v3]) fun v4=>
 bnd (unO .not v4) fun v5=>
 ifB v5
 ((bnd (Xp (C m) 34 []) fun v6=>
 bnd (stO (C m) 34 t6 v6) fun _=>
 Qo (C m) [(some 34,t6),(none,(I 1))]))
 ((bnd (ldO (C m) 34 v2) fun v7=>
 bnd (stO (C m) 34 t6 v7) fun _=>
 Qo (C m) [(some 34,t6),(none,(I 0))]))
theorem K38_2_eq:D38 m c c38_2 (Z38 m) nx = (a4 (K38_2 m c) 0 1 2 6):=by
  refine Tq (D38 m c (pS1 c38_2) (D38 m c (pS1 (pS1 (pS2 c38_2))) (fun e=>ifB (e 23) ((D38 m c (pS1 (pC1 (pS2 (pS1 (pS2 c38_2))))) (Z38 m) nx) e) ((D38 m c (pS1 (pS2 (pS2 c38_2))) (Z38 m) nx) e)) nx) nx) (by kernel_rfl) ?_
  kernel_rfl
noncomputable def K38_1 (m:Nat) (c:Qd) (t0 t1 t2 t6:AV):Kt:=
 bnd (Qi (C m) .lss 3 t1 (I 1)) fun v0=>
 bnd (gdO (Qc v0 false) (fun _=>.val t1)) fun v1=>
 bnd (gdO (Qc v0 false) (Qi (C m) .gtr 3 v1 (I 256))) fun v2=>
 bnd (Qm v0 (B true) v2) fun v3=>
 ifB v3
 ((bnd (Xp (C m) 34 []) fun v4=>
 bnd (stO (C m) 34 t6 v4) fun _=>
 Qo (C m) [(some 34,t6),(none,(I 1))]))
 ((K38_2 m c t0 t1 t2 t6))
theorem K38_1_eq:D38 m c c38_1 (Z38 m) nx = (a4 (K38_1 m c) 0 1 2 6):=by
  refine Tq (D38 m c (pS1 (pS1 c38_1)) (fun e=>ifB (e 14) ((D38 m c (pS1 (pC1 (pS2 (pS1 c38_1)))) (Z38 m) nx) e) ((D38 m c c38_2 (Z38 m) nx) e)) nx) (by kernel_rfl) ?_
  rw [K38_2_eq m c ]
  kernel_rfl
noncomputable def K38_0 (m:Nat) (c:Qd) (t0 t1 t2:AV):Kt:=
 bnd (Xe (C m) 34) fun v0=>
 K38_1 m c t0 t1 t2 v0
theorem K38_0_eq:D38 m c c38_0 (Z38 m) nx = (a3 (K38_0 m c) 0 1 2):=by
  refine Tq (D38 m c (pS1 c38_0) (D38 m c c38_1 (Z38 m) nx) nx) (by kernel_rfl) ?_
  rw [K38_1_eq m c ]
  kernel_rfl
theorem F38_eq (t0 t1 t2:AV):Qu (C m) c Tryz.f38 [t0,t1,t2] = K38_0 m c t0 t1 t2:=by
  refine Tq ((D38 m c c38_0 (Z38 m) nx) (Xl [t0,t1,t2])) (by kernel_rfl) ?_
  rw [K38_0_eq m c]
  rfl
noncomputable def c40_0:Code:=(Qw Tryz.f40)
noncomputable def c40_1:Code:=(pS2 c40_0)
noncomputable def c40_2:Code:=(pS2 c40_1)
noncomputable def c40_3:Code:=(pS2 c40_2)
noncomputable def c40_4:Code:=(pS2 c40_3)
noncomputable def c40_5:Code:=(pS2 (pS1 c40_3))
noncomputable def c40_6:Code:=(pL (pB c40_5))
noncomputable def c40_7:Code:=(pS2 c40_6)
noncomputable def c40_8:Code:=(pS2 c40_7)
noncomputable def c40_9:Code:=(pS2 c40_8)
noncomputable def Z40 (m:Nat):=fun (e:Nat→AV)=>Qo (C m) (Xh e Tryz.f40.results.toList)
noncomputable def D40 (m:Nat) (c:Qd) (p:Code) (k:TE→Kt) (x:Nat→TE→Kt):=Q2 p (C m) c k x (Z40 m)
noncomputable def Jl (m:Nat) (c:Qd) (t6 t8:AV):Kt:=
 bnd (ldO (C m) 100 t8) fun v0=>
 bnd (stO (C m) 100 t6 v0) fun _=>
 Qo (C m) [(some 100,t6),(none,(I 0))]
theorem K40_4_eq:D40 m c c40_4 (Z40 m) nx = (a2 (Jl m c) 6 8):=by
  refine Tq (D40 m c (pS1 c40_4) (Z40 m) nx) (by kernel_rfl) ?_
  kernel_rfl
noncomputable def K40_9 (m:Nat) (c:Qd) (h6:AV→AV→AV→AV→AV→Kt) (t2 t6 t8 t31 t32:AV):Kt:=
 bnd (Qi (C m) .add 3 t32 (I 1)) fun v0=>
 h6 t2 t6 t8 t31 v0
theorem K40_9_eq (h6:AV→AV→AV→AV→AV→Kt):D40 m c c40_9 (a5 h6 2 6 8 31 32) (Qa 0 (a2 (Jl m c) 6 8) nx) = (a5 (K40_9 m c h6) 2 6 8 31 32):=by
  kernel_rfl
noncomputable def K40_8 (m:Nat) (c:Qd) (h6:AV→AV→AV→AV→AV→Kt) (t2 t6 t8 t31 t32:AV):Kt:=
 atN 8 fun v0=>
 dIn fun sv0=>
 Qk (Qh (C m) 100 t8 1) fun v1=>
 Qr (ldO (C m) 27 v1) fun v2=>
 Vw (mksO (C m) 25 t2 t2) (Nat.add v0 3) fun v3=>
 Vw (Vi (C m) 27 1 [(0,v3)]) (Nat.add v0 4) fun v4=>
 Xn (Qv (C m) .append [27,27] [v2,v4]) fun v5 sv5=>
 Qk (Qh (C m) 100 t8 1) fun v6=>
 Xn (stO (C m) 27 v6 v5) fun v7 sv7=>
 K40_9 m c h6 t2 t6 t8 t31 t32
theorem K40_8_eq (h6:AV→AV→AV→AV→AV→Kt):D40 m c c40_8 (a5 h6 2 6 8 31 32) (Qa 0 (a2 (Jl m c) 6 8) nx) = (a5 (K40_8 m c h6) 2 6 8 31 32):=by
  refine Tq (D40 m c (pB (pS1 c40_8)) (D40 m c c40_9 (a5 h6 2 6 8 31 32) (Qa 0 (a2 (Jl m c) 6 8) nx)) (Qa 1 (D40 m c c40_9 (a5 h6 2 6 8 31 32) (Qa 0 (a2 (Jl m c) 6 8) nx)) (Qa 0 (a2 (Jl m c) 6 8) nx))) (by kernel_rfl) ?_
  rw [K40_9_eq m c h6 ]
  kernel_rfl
noncomputable def K40_7 (m:Nat) (c:Qd) (h6:AV→AV→AV→AV→AV→Kt) (t2 t6 t8 t31 t32 t33:AV):Kt:=
 ifB t33
 ((K40_8 m c h6 t2 t6 t8 t31 t32))
 ((Jl m c t6 t8))
theorem K40_7_eq (h6:AV→AV→AV→AV→AV→Kt):D40 m c c40_7 (a5 h6 2 6 8 31 32) (Qa 0 (a2 (Jl m c) 6 8) nx) = (a6 (K40_7 m c h6) 2 6 8 31 32 33):=by
  refine Tq (fun e=>ifB (e 33) ((D40 m c c40_8 (a5 h6 2 6 8 31 32) (Qa 0 (a2 (Jl m c) 6 8) nx)) e) ((a2 (Jl m c) 6 8) e)) (by kernel_rfl) ?_
  rw [K40_8_eq m c h6 ]
  kernel_rfl
noncomputable def L40_6_b (m:Nat) (c:Qd) (h6:AV→AV→AV→AV→AV→Kt) (t2 t6 t8 t31 t32:AV):Kt:=
 bnd (Qi (C m) .lss 3 t32 t31) fun v0=>
 K40_7 m c h6 t2 t6 t8 t31 t32 v0
noncomputable def L40_6 (m:Nat) (c:Qd) (n:Nat):AV→AV→AV→AV→AV→Kt:=
 Nat.rec (motive:=fun _=>AV→AV→AV→AV→AV→Kt) (fun t2 t6 t8 t31 t32=>noK) (fun _ ih=>L40_6_b m c ih) n
theorem L40_6_b_eq (h6:AV→AV→AV→AV→AV→Kt):D40 m c c40_6 (a5 h6 2 6 8 31 32) (Qa 0 (a2 (Jl m c) 6 8) nx) = fun e=>L40_6_b m c h6 (e 2) (e 6) (e 8) (e 31) (e 32):=by
  refine Tq (D40 m c (pS1 c40_6) (D40 m c c40_7 (a5 h6 2 6 8 31 32) (Qa 0 (a2 (Jl m c) 6 8) nx)) (Qa 0 (a2 (Jl m c) 6 8) nx)) (by kernel_rfl) ?_
  rw [K40_7_eq m c h6 ]
  kernel_rfl
theorem L40_6_eq (n:Nat):(Qn (fun k=>D40 m c c40_6 k (Qa 0 (a2 (Jl m c) 6 8) nx)) n) = (a5 (L40_6 m c n) 2 6 8 31 32):=by
  induction n with
  | zero=>rfl
  | succ n ih=>
    show D40 m c c40_6 (Qn (fun k=>D40 m c c40_6 k (Qa 0 (a2 (Jl m c) 6 8) nx)) n) (Qa 0 (a2 (Jl m c) 6 8) nx) = _
    rw [ih,L40_6_b_eq m c (L40_6 m c n)]
    rfl
theorem L40_6_succ (n:Nat):L40_6 m c (n + 1) = L40_6_b m c (L40_6 m c n):=rfl
noncomputable def K40_5 (m:Nat) (c:Qd) (t2 t6 t8 t31 t32:AV):Kt:=
 L40_6 m c m t2 t6 t8 t31 t32
theorem K40_5_eq:D40 m c c40_5 (a2 (Jl m c) 6 8) nx = (a5 (K40_5 m c) 2 6 8 31 32):=by
  refine Tq (Qn (fun k=>D40 m c c40_6 k (Qa 0 (a2 (Jl m c) 6 8) nx)) m) (by kernel_rfl) ?_
  rw [L40_6_eq m c m]
  kernel_rfl
noncomputable def K40_3 (m:Nat) (c:Qd) (t1 t2 t6 t8:AV):Kt:=
 K40_5 m c t2 t6 t8 t1 (I 0)
theorem K40_3_eq:D40 m c c40_3 (Z40 m) nx = (a4 (K40_3 m c) 1 2 6 8):=by
  refine Tq (D40 m c (pS1 (pS1 c40_3)) (D40 m c c40_5 (D40 m c c40_4 (Z40 m) nx) nx) nx) (by kernel_rfl) ?_
  rw [K40_4_eq m c ,K40_5_eq m c ]
  kernel_rfl
noncomputable def K40_2 (m:Nat) (c:Qd) (t0 t1 t2 t6:AV):Kt:=
 bnd (Xp (C m) 100 [(0,t0)]) fun v0=>
 bnd (Xe (C m) 100) fun v1=>
 bnd (stO (C m) 100 v1 v0) fun _=>
 K40_3 m c t1 t2 t6 v1
theorem K40_2_eq:D40 m c c40_2 (Z40 m) nx = (a4 (K40_2 m c) 0 1 2 6):=by
  refine Tq (D40 m c (pS1 c40_2) (D40 m c c40_3 (Z40 m) nx) nx) (by kernel_rfl) ?_
  rw [K40_3_eq m c ]
  kernel_rfl
noncomputable def K40_1 (m:Nat) (c:Qd) (t0 t1 t2 t6:AV):Kt:=
 bnd (Qi (C m) .lss 3 t1 (I 1)) fun v0=>
 bnd (gdO (Qc v0 false) (fun _=>.val t1)) fun v1=>
 bnd (gdO (Qc v0 false) (Qi (C m) .gtr 3 v1 (I 7))) fun v2=>
 bnd (Qm v0 (B true) v2) fun v3=>
 bnd (gdO (Qc v3 false) (fun _=>.val t1)) fun v4=>
 bnd (gdO (Qc v3 false) (Qi (C m) .rem 3 v4 (I 2))) fun v5=>
 bnd (gdO (Qc v3 false) (Qi (C m) .eql 3 v5 (I 0))) fun v6=>
 bnd (Qm v3 (B true) v6) fun v7=>
 bnd (gdO (Qc v7 false) (fun _=>.val t2)) fun v8=>
 bnd (gdO (Qc v7 false) (Qi (C m) .lss 3 v8 (I 1))) fun v9=>
 bnd (Qm v7 (B true) v9) fun v10=>
 bnd (gdO (Qc v10 false) (fun _=>.val t2)) fun v11=>
 bnd (gdO (Qc v10 false) (Qi (C m) .gtr 3 v11 (I 256))) fun v12=>
 bnd (Qm v10 (B true) v12) fun v13=>
 ifB v13
 ((bnd (Xp (C m) 100 []) fun v14=>
 bnd (stO (C m) 100 t6 v14) fun _=>
 Qo (C m) [(some 100,t6),(none,(I 1))]))
 ((K40_2 m c t0 t1 t2 t6))
theorem K40_1_eq:D40 m c c40_1 (Z40 m) nx = (a4 (K40_1 m c) 0 1 2 6):=by
  refine Tq (D40 m c (pS1 (pS1 c40_1)) (fun e=>ifB (e 27) ((D40 m c (pS1 (pC1 (pS2 (pS1 c40_1)))) (Z40 m) nx) e) ((D40 m c c40_2 (Z40 m) nx) e)) nx) (by kernel_rfl) ?_
  rw [K40_2_eq m c ]
  kernel_rfl
noncomputable def K40_0 (m:Nat) (c:Qd) (t0 t1 t2:AV):Kt:=
 bnd (Xe (C m) 100) fun v0=>
 K40_1 m c t0 t1 t2 v0
theorem K40_0_eq:D40 m c c40_0 (Z40 m) nx = (a3 (K40_0 m c) 0 1 2):=by
  refine Tq (D40 m c (pS1 c40_0) (D40 m c c40_1 (Z40 m) nx) nx) (by kernel_rfl) ?_
  rw [K40_1_eq m c ]
  kernel_rfl
theorem F40_eq (t0 t1 t2:AV):Qu (C m) c Tryz.f40 [t0,t1,t2] = K40_0 m c t0 t1 t2:=by
  refine Tq ((D40 m c c40_0 (Z40 m) nx) (Xl [t0,t1,t2])) (by kernel_rfl) ?_
  rw [K40_0_eq m c]
  rfl
noncomputable def c87_0:Code:=(Qw Tryz.f87)
noncomputable def Z87 (m:Nat):=fun (e:Nat→AV)=>Qo (C m) (Xh e Tryz.f87.results.toList)
noncomputable def D87 (m:Nat) (c:Qd) (p:Code) (k:TE→Kt) (x:Nat→TE→Kt):=Q2 p (C m) c k x (Z87 m)
noncomputable def K87_0 (m:Nat) (c:Qd) (t0 t1:AV):Kt:=
 ifB (B false)
 ((bnd (cvO (C m) 195 254 t0) fun v0=>
 bnd (cvO (C m) 195 254 t1) fun v1=>
 bnd (Qy (C m) c (fnV 137) [v0,v1]) fun v2=>
 bnd (Vz v2 0) fun v3=>
 bnd (Vz v2 1) fun v4=>
 bnd (cvO (C m) 254 195 v3) fun v5=>
 bnd (cvO (C m) 254 195 v4) fun v6=>
 Qo (C m) [(none,v5),(none,v6)]))
 ((bnd (Qy (C m) c (fnV 85) [t0,t1]) fun v7=>
 bnd (Vz v7 0) fun v8=>
 bnd (Vz v7 1) fun v9=>
 Qo (C m) [(none,v8),(none,v9)]))
theorem K87_0_eq:D87 m c c87_0 (Z87 m) nx = (a2 (K87_0 m c) 0 1):=by
  refine Tq (D87 m c (pS1 c87_0) (fun e=>ifB (B false) ((D87 m c (pS1 (pC1 (pS1 (pS2 c87_0)))) (D87 m c (pS1 (pS2 (pC1 (pS1 (pS2 c87_0))))) (Z87 m) nx) nx) e) ((D87 m c (pS1 (pS2 (pS2 c87_0))) (D87 m c (pS1 (pS2 (pS2 (pS2 c87_0)))) (Z87 m) nx) nx) e)) nx) (by kernel_rfl) ?_
  kernel_rfl
theorem F87_eq (t0 t1:AV):Qu (C m) c Tryz.f87 [t0,t1] = K87_0 m c t0 t1:=by
  refine Tq ((D87 m c c87_0 (Z87 m) nx) (Xl [t0,t1])) (by kernel_rfl) ?_
  rw [K87_0_eq m c]
  rfl
noncomputable def c39_0:Code:=(Qw Tryz.f39)
noncomputable def c39_1:Code:=(pS2 c39_0)
noncomputable def c39_2:Code:=(pS2 c39_1)
noncomputable def c39_3:Code:=(pS2 c39_2)
noncomputable def c39_4:Code:=(pS2 c39_3)
noncomputable def c39_5:Code:=(pS2 c39_4)
noncomputable def c39_6:Code:=(pS2 c39_5)
noncomputable def c39_7:Code:=(pS2 c39_6)
noncomputable def c39_8:Code:=(pL (pB (pS1 c39_6)))
noncomputable def Z39 (m:Nat):=fun (e:Nat→AV)=>Qo (C m) (Xh e Tryz.f39.results.toList)
noncomputable def D39 (m:Nat) (c:Qd) (p:Code) (k:TE→Kt) (x:Nat→TE→Kt):=Q2 p (C m) c k x (Z39 m)
noncomputable def K39_7 (m:Nat) (c:Qd) (t7:AV):Kt:=
 Qo (C m) [(none,t7)]
theorem K39_7_eq:D39 m c c39_7 (Z39 m) nx = (a1 (K39_7 m c) 7):=by
  refine Tq (D39 m c (pS1 c39_7) (Z39 m) nx) (by kernel_rfl) ?_
  kernel_rfl
noncomputable def L39_8_b (m:Nat) (c:Qd) (h8:AV→AV→Kt) (t7 t8:AV):Kt:=
 bnd (Qv (C m) .len [94] [t7]) fun v0=>
 bnd (Qi (C m) .lss 3 t8 v0) fun v1=>
 ifB v1
 ((dIn fun sv2=>
 Qr (slcO (C m) 94 t7 (some t8) none none) fun v3=>
 Qr (slcO (C m) 94 t7 none (some t8) none) fun v4=>
 Xn (Qv (C m) .copy [94,94] [v3,v4]) fun v5 sv5=>
 Qk (Qi (C m) .add 3 t8 v5) fun v6=>
 h8 t7 v6))
 ((K39_7 m c t7))
noncomputable def L39_8 (m:Nat) (c:Qd) (n:Nat):AV→AV→Kt:=
 Nat.rec (motive:=fun _=>AV→AV→Kt) (fun t7 t8=>noK) (fun _ ih=>L39_8_b m c ih) n
theorem L39_8_b_eq (h8:AV→AV→Kt):D39 m c c39_8 (a2 h8 7 8) (Qa 0 (a1 (K39_7 m c) 7) nx) = fun e=>L39_8_b m c h8 (e 7) (e 8):=by
  refine Tq (D39 m c (pS1 (pS1 c39_8)) (fun e=>ifB (e 37) ((D39 m c (pB (pS2 c39_8)) (a2 h8 7 8) (Qa 1 (a2 h8 7 8) (Qa 0 (a1 (K39_7 m c) 7) nx))) e) ((a1 (K39_7 m c) 7) e)) (Qa 0 (a1 (K39_7 m c) 7) nx)) (by kernel_rfl) ?_
  kernel_rfl
theorem L39_8_eq (n:Nat):(Qn (fun k=>D39 m c c39_8 k (Qa 0 (a1 (K39_7 m c) 7) nx)) n) = (a2 (L39_8 m c n) 7 8):=by
  induction n with
  | zero=>rfl
  | succ n ih=>
    show D39 m c c39_8 (Qn (fun k=>D39 m c c39_8 k (Qa 0 (a1 (K39_7 m c) 7) nx)) n) (Qa 0 (a1 (K39_7 m c) 7) nx) = _
    rw [ih,L39_8_b_eq m c (L39_8 m c n)]
    rfl
theorem L39_8_succ (n:Nat):L39_8 m c (n + 1) = L39_8_b m c (L39_8 m c n):=rfl
noncomputable def K39_6 (m:Nat) (c:Qd) (t7 t8:AV):Kt:=
 L39_8 m c m t7 t8
theorem K39_6_eq:D39 m c c39_6 (Z39 m) nx = (a2 (K39_6 m c) 7 8):=by
  refine Tq (Qn (fun k=>D39 m c c39_8 k (Qa 0 (D39 m c c39_7 (Z39 m) nx) nx)) m) (by kernel_rfl) ?_
  rw [K39_7_eq m c ,L39_8_eq m c m]
  kernel_rfl
noncomputable def K39_5 (m:Nat) (c:Qd) (t0 t7:AV):Kt:=
 bnd (Qv (C m) .copy [94,94] [t7,t0]) fun v0=>
 K39_6 m c t7 v0
theorem K39_5_eq:D39 m c c39_5 (Z39 m) nx = (a2 (K39_5 m c) 0 7):=by
  refine Tq (D39 m c (pS1 c39_5) (D39 m c c39_6 (Z39 m) nx) nx) (by kernel_rfl) ?_
  rw [K39_6_eq m c ]
  kernel_rfl
noncomputable def K39_4 (m:Nat) (c:Qd) (t0 t6:AV):Kt:=
 bnd (cvO (C m) 195 3 t6) fun v0=>
 bnd (mksO (C m) 94 v0 v0) fun v1=>
 K39_5 m c t0 v1
theorem K39_4_eq:D39 m c c39_4 (Z39 m) nx = (a2 (K39_4 m c) 0 6):=by
  refine Tq (D39 m c (pS1 c39_4) (D39 m c c39_5 (Z39 m) nx) nx) (by kernel_rfl) ?_
  rw [K39_5_eq m c ]
  kernel_rfl
noncomputable def K39_3 (m:Nat) (c:Qd) (t0 t5 t6:AV):Kt:=
 bnd (Qi (C m) .gtr 195 t5 (Iu 0)) fun v0=>
 bnd (gdO (Qc v0 false) (fun _=>.val t6)) fun v1=>
 bnd (gdO (Qc v0 false) (Qi (C m) .gtr 195 v1 (Iu 9223372036854775807))) fun v2=>
 bnd (Qm v0 (B true) v2) fun v3=>
 ifB v3
 ((bnd (noO) fun v4=>
 bnd (noO) fun _=>
 K39_4 m c t0 t6))
 ((K39_4 m c t0 t6))
theorem K39_3_eq:D39 m c c39_3 (Z39 m) nx = (a3 (K39_3 m c) 0 5 6):=by
  refine Tq (D39 m c (pS1 (pS1 c39_3)) (fun e=>ifB (e 26) ((D39 m c (pC1 (pS2 (pS1 c39_3))) (D39 m c c39_4 (Z39 m) nx) nx) e) ((D39 m c c39_4 (Z39 m) nx) e)) nx) (by kernel_rfl) ?_
  rw [K39_4_eq m c ]
  kernel_rfl
noncomputable def K39_2 (m:Nat) (c:Qd) (t0 t1:AV):Kt:=
 bnd (Qv (C m) .len [94] [t0]) fun v0=>
 bnd (cvO (C m) 3 195 v0) fun v1=>
 bnd (cvO (C m) 3 195 t1) fun v2=>
 bnd (Qy (C m) c (fnV 87) [v1,v2]) fun v3=>
 bnd (Vz v3 0) fun v4=>
 bnd (Vz v3 1) fun v5=>
 K39_3 m c t0 v4 v5
theorem K39_2_eq:D39 m c c39_2 (Z39 m) nx = (a2 (K39_2 m c) 0 1):=by
  refine Tq (D39 m c (pS1 c39_2) (D39 m c c39_3 (Z39 m) nx) nx) (by kernel_rfl) ?_
  rw [K39_3_eq m c ]
  kernel_rfl
noncomputable def K39_1 (m:Nat) (c:Qd) (t0 t1:AV):Kt:=
 bnd (Qi (C m) .lss 3 t1 (I 0)) fun v0=>
 ifB v0
 ((bnd (noO) fun v1=>
 bnd (noO) fun _=>
 K39_2 m c t0 t1))
 ((K39_2 m c t0 t1))
theorem K39_1_eq:D39 m c c39_1 (Z39 m) nx = (a2 (K39_1 m c) 0 1):=by
  refine Tq (D39 m c (pS1 (pS1 c39_1)) (fun e=>ifB (e 10) ((D39 m c (pC1 (pS2 (pS1 c39_1))) (D39 m c c39_2 (Z39 m) nx) nx) e) ((D39 m c c39_2 (Z39 m) nx) e)) nx) (by kernel_rfl) ?_
  rw [K39_2_eq m c ]
  kernel_rfl
noncomputable def K39_0 (m:Nat) (c:Qd) (t0 t1:AV):Kt:=
 K39_1 m c t0 t1
theorem K39_0_eq:D39 m c c39_0 (Z39 m) nx = (a2 (K39_0 m c) 0 1):=by
  refine Tq (D39 m c (pS1 c39_0) (D39 m c c39_1 (Z39 m) nx) nx) (by kernel_rfl) ?_
  rw [K39_1_eq m c ]
  kernel_rfl
theorem F39_eq (t0 t1:AV):Qu (C m) c Tryz.f39 [t0,t1] = K39_0 m c t0 t1:=by
  refine Tq ((D39 m c c39_0 (Z39 m) nx) (Xl [t0,t1])) (by kernel_rfl) ?_
  rw [K39_0_eq m c]
  rfl
noncomputable def c41_0:Code:=(Qw Tryz.f41)
noncomputable def c41_1:Code:=(pS2 c41_0)
noncomputable def c41_2:Code:=(pS2 c41_1)
noncomputable def c41_3:Code:=(pS2 c41_2)
noncomputable def c41_4:Code:=(pS2 c41_3)
noncomputable def c41_5:Code:=(pS2 (pS1 c41_3))
noncomputable def c41_6:Code:=(pL (pB c41_5))
noncomputable def c41_7:Code:=(pS2 c41_6)
noncomputable def c41_8:Code:=(pS2 c41_7)
noncomputable def c41_9:Code:=(pS2 c41_8)
noncomputable def Z41 (m:Nat):=fun (e:Nat→AV)=>Qo (C m) (Xh e Tryz.f41.results.toList)
noncomputable def D41 (m:Nat) (c:Qd) (p:Code) (k:TE→Kt) (x:Nat→TE→Kt):=Q2 p (C m) c k x (Z41 m)
noncomputable def Jm (m:Nat) (c:Qd) (t6 t8:AV):Kt:=
 bnd (ldO (C m) 115 t8) fun v0=>
 bnd (stO (C m) 115 t6 v0) fun _=>
 Qo (C m) [(some 115,t6),(none,(I 0))]
theorem K41_4_eq:D41 m c c41_4 (Z41 m) nx = (a2 (Jm m c) 6 8):=by
  refine Tq (D41 m c (pS1 c41_4) (Z41 m) nx) (by kernel_rfl) ?_
  kernel_rfl
noncomputable def K41_9 (m:Nat) (c:Qd) (h6:AV→AV→AV→AV→AV→Kt) (t2 t6 t8 t26 t27:AV):Kt:=
 bnd (Qi (C m) .add 3 t27 (I 1)) fun v0=>
 h6 t2 t6 t8 t26 v0
theorem K41_9_eq (h6:AV→AV→AV→AV→AV→Kt):D41 m c c41_9 (a5 h6 2 6 8 26 27) (Qa 0 (a2 (Jm m c) 6 8) nx) = (a5 (K41_9 m c h6) 2 6 8 26 27):=by
  kernel_rfl
noncomputable def K41_8 (m:Nat) (c:Qd) (h6:AV→AV→AV→AV→AV→Kt) (t2 t6 t8 t26 t27:AV):Kt:=
 atN 8 fun v0=>
 dIn fun sv0=>
 Qk (Qh (C m) 115 t8 1) fun v1=>
 Qr (ldO (C m) 113 v1) fun v2=>
 Vw (mksO (C m) 32 t2 t2) (Nat.add v0 3) fun v3=>
 Vw (Vi (C m) 113 1 [(0,v3)]) (Nat.add v0 4) fun v4=>
 Xn (Qv (C m) .append [113,113] [v2,v4]) fun v5 sv5=>
 Qk (Qh (C m) 115 t8 1) fun v6=>
 Xn (stO (C m) 113 v6 v5) fun v7 sv7=>
 K41_9 m c h6 t2 t6 t8 t26 t27
theorem K41_8_eq (h6:AV→AV→AV→AV→AV→Kt):D41 m c c41_8 (a5 h6 2 6 8 26 27) (Qa 0 (a2 (Jm m c) 6 8) nx) = (a5 (K41_8 m c h6) 2 6 8 26 27):=by
  refine Tq (D41 m c (pB (pS1 c41_8)) (D41 m c c41_9 (a5 h6 2 6 8 26 27) (Qa 0 (a2 (Jm m c) 6 8) nx)) (Qa 1 (D41 m c c41_9 (a5 h6 2 6 8 26 27) (Qa 0 (a2 (Jm m c) 6 8) nx)) (Qa 0 (a2 (Jm m c) 6 8) nx))) (by kernel_rfl) ?_
  rw [K41_9_eq m c h6 ]
  kernel_rfl
noncomputable def K41_7 (m:Nat) (c:Qd) (h6:AV→AV→AV→AV→AV→Kt) (t2 t6 t8 t26 t27 t28:AV):Kt:=
 ifB t28
 ((K41_8 m c h6 t2 t6 t8 t26 t27))
 ((Jm m c t6 t8))
theorem K41_7_eq (h6:AV→AV→AV→AV→AV→Kt):D41 m c c41_7 (a5 h6 2 6 8 26 27) (Qa 0 (a2 (Jm m c) 6 8) nx) = (a6 (K41_7 m c h6) 2 6 8 26 27 28):=by
  refine Tq (fun e=>ifB (e 28) ((D41 m c c41_8 (a5 h6 2 6 8 26 27) (Qa 0 (a2 (Jm m c) 6 8) nx)) e) ((a2 (Jm m c) 6 8) e)) (by kernel_rfl) ?_
  rw [K41_8_eq m c h6 ]
  kernel_rfl
noncomputable def L41_6_b (m:Nat) (c:Qd) (h6:AV→AV→AV→AV→AV→Kt) (t2 t6 t8 t26 t27:AV):Kt:=
 bnd (Qi (C m) .lss 3 t27 t26) fun v0=>
 K41_7 m c h6 t2 t6 t8 t26 t27 v0
noncomputable def L41_6 (m:Nat) (c:Qd) (n:Nat):AV→AV→AV→AV→AV→Kt:=
 Nat.rec (motive:=fun _=>AV→AV→AV→AV→AV→Kt) (fun t2 t6 t8 t26 t27=>noK) (fun _ ih=>L41_6_b m c ih) n
theorem L41_6_b_eq (h6:AV→AV→AV→AV→AV→Kt):D41 m c c41_6 (a5 h6 2 6 8 26 27) (Qa 0 (a2 (Jm m c) 6 8) nx) = fun e=>L41_6_b m c h6 (e 2) (e 6) (e 8) (e 26) (e 27):=by
  refine Tq (D41 m c (pS1 c41_6) (D41 m c c41_7 (a5 h6 2 6 8 26 27) (Qa 0 (a2 (Jm m c) 6 8) nx)) (Qa 0 (a2 (Jm m c) 6 8) nx)) (by kernel_rfl) ?_
  rw [K41_7_eq m c h6 ]
  kernel_rfl
theorem L41_6_eq (n:Nat):(Qn (fun k=>D41 m c c41_6 k (Qa 0 (a2 (Jm m c) 6 8) nx)) n) = (a5 (L41_6 m c n) 2 6 8 26 27):=by
  induction n with
  | zero=>rfl
  | succ n ih=>
    show D41 m c c41_6 (Qn (fun k=>D41 m c c41_6 k (Qa 0 (a2 (Jm m c) 6 8) nx)) n) (Qa 0 (a2 (Jm m c) 6 8) nx) = _
    rw [ih,L41_6_b_eq m c (L41_6 m c n)]
    rfl
theorem L41_6_succ (n:Nat):L41_6 m c (n + 1) = L41_6_b m c (L41_6 m c n):=rfl
noncomputable def K41_5 (m:Nat) (c:Qd) (t2 t6 t8 t26 t27:AV):Kt:=
 L41_6 m c m t2 t6 t8 t26 t27
theorem K41_5_eq:D41 m c c41_5 (a2 (Jm m c) 6 8) nx = (a5 (K41_5 m c) 2 6 8 26 27):=by
  refine Tq (Qn (fun k=>D41 m c c41_6 k (Qa 0 (a2 (Jm m c) 6 8) nx)) m) (by kernel_rfl) ?_
  rw [L41_6_eq m c m]
  kernel_rfl
noncomputable def K41_3 (m:Nat) (c:Qd) (t1 t2 t6 t8:AV):Kt:=
 K41_5 m c t2 t6 t8 t1 (I 0)
theorem K41_3_eq:D41 m c c41_3 (Z41 m) nx = (a4 (K41_3 m c) 1 2 6 8):=by
  refine Tq (D41 m c (pS1 (pS1 c41_3)) (D41 m c c41_5 (D41 m c c41_4 (Z41 m) nx) nx) nx) (by kernel_rfl) ?_
  rw [K41_4_eq m c ,K41_5_eq m c ]
  kernel_rfl
noncomputable def K41_2 (m:Nat) (c:Qd) (t0 t1 t2 t6:AV):Kt:=
 bnd (Xp (C m) 115 [(0,t0)]) fun v0=>
 bnd (Xe (C m) 115) fun v1=>
 bnd (stO (C m) 115 v1 v0) fun _=>
 K41_3 m c t1 t2 t6 v1
theorem K41_2_eq:D41 m c c41_2 (Z41 m) nx = (a4 (K41_2 m c) 0 1 2 6):=by
  refine Tq (D41 m c (pS1 c41_2) (D41 m c c41_3 (Z41 m) nx) nx) (by kernel_rfl) ?_
  rw [K41_3_eq m c ]
  kernel_rfl
noncomputable def K41_1 (m:Nat) (c:Qd) (t0 t1 t2 t6:AV):Kt:=
 bnd (Qi (C m) .lss 3 t1 (I 1)) fun v0=>
 bnd (gdO (Qc v0 false) (fun _=>.val t1)) fun v1=>
 bnd (gdO (Qc v0 false) (Qi (C m) .gtr 3 v1 (I 16))) fun v2=>
 bnd (Qm v0 (B true) v2) fun v3=>
 bnd (gdO (Qc v3 false) (fun _=>.val t2)) fun v4=>
 bnd (gdO (Qc v3 false) (Qi (C m) .lss 3 v4 (I 1))) fun v5=>
 bnd (Qm v3 (B true) v5) fun v6=>
 bnd (gdO (Qc v6 false) (fun _=>.val t2)) fun v7=>
 bnd (gdO (Qc v6 false) (Qi (C m) .gtr 3 v7 (I 256))) fun v8=>
 bnd (Qm v6 (B true) v8) fun v9=>
 ifB v9
 ((bnd (Xp (C m) 115 []) fun v10=>
 bnd (stO (C m) 115 t6 v10) fun _=>
 Qo (C m) [(some 115,t6),(none,(I 1))]))
 ((K41_2 m c t0 t1 t2 t6))
theorem K41_1_eq:D41 m c c41_1 (Z41 m) nx = (a4 (K41_1 m c) 0 1 2 6):=by
  refine Tq (D41 m c (pS1 (pS1 c41_1)) (fun e=>ifB (e 22) ((D41 m c (pS1 (pC1 (pS2 (pS1 c41_1)))) (Z41 m) nx) e) ((D41 m c c41_2 (Z41 m) nx) e)) nx) (by kernel_rfl) ?_
  rw [K41_2_eq m c ]
  kernel_rfl
noncomputable def K41_0 (m:Nat) (c:Qd) (t0 t1 t2:AV):Kt:=
 bnd (Xe (C m) 115) fun v0=>
 K41_1 m c t0 t1 t2 v0
theorem K41_0_eq:D41 m c c41_0 (Z41 m) nx = (a3 (K41_0 m c) 0 1 2):=by
  refine Tq (D41 m c (pS1 c41_0) (D41 m c c41_1 (Z41 m) nx) nx) (by kernel_rfl) ?_
  rw [K41_1_eq m c ]
  kernel_rfl
theorem F41_eq (t0 t1 t2:AV):Qu (C m) c Tryz.f41 [t0,t1,t2] = K41_0 m c t0 t1 t2:=by
  refine Tq ((D41 m c c41_0 (Z41 m) nx) (Xl [t0,t1,t2])) (by kernel_rfl) ?_
  rw [K41_0_eq m c]
  rfl
noncomputable def c11_0:Code:=(Qw Tryz.f11)
noncomputable def c11_1:Code:=(pS2 c11_0)
noncomputable def Z11 (m:Nat):=fun (e:Nat→AV)=>Qo (C m) (Xh e Tryz.f11.results.toList)
noncomputable def D11 (m:Nat) (c:Qd) (p:Code) (k:TE→Kt) (x:Nat→TE→Kt):=Q2 p (C m) c k x (Z11 m)
noncomputable def K11_1 (m:Nat) (c:Qd) (t0 t1 t2 t3 t4 t5 t12:AV):Kt:=
 bnd (Qy (C m) c (fnV 12) [t0,(I 1)]) fun v0=>
 bnd (Qy (C m) c (fnV 35) [v0,t4,t5,(I 255)]) fun v1=>
 bnd (Vz v1 0) fun v2=>
 bnd (Vz v1 1) fun v3=>
 bnd (Xe (C m) 29) fun v4=>
 bnd (stO (C m) 29 v4 v2) fun _=>
 bnd (Qi (C m) .neq 46 v3 (I 0)) fun v5=>
 bnd (gdO (Qc v5 false) (fun _=>.val t1)) fun v6=>
 bnd (gdO (Qc v5 false) (Qi (C m) .lss 3 v6 (I 1))) fun v7=>
 bnd (Qm v5 (B true) v7) fun v8=>
 bnd (gdO (Qc v8 false) (fun _=>.val t1)) fun v9=>
 bnd (gdO (Qc v8 false) (Qi (C m) .gtr 3 v9 (I 256))) fun v10=>
 bnd (Qm v8 (B true) v10) fun v11=>
 bnd (gdO (Qc v11 false) (fun _=>.val t2)) fun v12=>
 bnd (gdO (Qc v11 false) (Qi (C m) .lss 3 v12 (I 1))) fun v13=>
 bnd (Qm v11 (B true) v13) fun v14=>
 bnd (gdO (Qc v14 false) (fun _=>.val t2)) fun v15=>
 bnd (gdO (Qc v14 false) (Qi (C m) .gtr 3 v15 (I 8))) fun v16=>
 bnd (Qm v14 (B true) v16) fun v17=>
 bnd (gdO (Qc v17 false) (fun _=>.val t3)) fun v18=>
 bnd (gdO (Qc v17 false) (Qi (C m) .lss 3 v18 (I 1))) fun v19=>
 bnd (Qm v17 (B true) v19) fun v20=>
 bnd (gdO (Qc v20 false) (fun _=>.val t3)) fun v21=>
 bnd (gdO (Qc v20 false) (Qi (C m) .gtr 3 v21 (I 64))) fun v22=>
 bnd (Qm v20 (B true) v22) fun v23=>
 ifB v23
 ((bnd (Xp (C m) 31 []) fun v24=>
 bnd (stO (C m) 31 t12 v24) fun _=>
 Qo (C m) [(some 31,t12),(none,(I 1))]))
 ((atN 9 fun v25=>
 dIn fun sv25=>
 Vw (mksO (C m) 26 t1 t1) (Nat.add v25 4) fun v26=>
 Ze (some true) (ldO (C m) 29 v4) (fun v27=>(Xk (ldO (C m) 29 v4) v27 sv25 && true)) fun v28=>
 Qk (Xp (C m) 31 [(0,t0),(1,t2),(2,t3),(3,v26),(4,v28)]) fun v29=>
 Xn (stO (C m) 31 t12 v29) fun v30 sv30=>
 Qo (C m) [(some 31,t12),(none,(I 0))]))
theorem K11_1_eq:D11 m c c11_1 (Z11 m) nx = (a7 (K11_1 m c) 0 1 2 3 4 5 12):=by
  refine Tq (D11 m c (pS1 c11_1) (D11 m c (pS1 (pS1 (pS2 c11_1))) (fun e=>ifB (e 49) ((D11 m c (pS1 (pC1 (pS2 (pS1 (pS2 c11_1))))) (Z11 m) nx) e) ((D11 m c (pS1 (pS2 (pS2 c11_1))) (Z11 m) nx) e)) nx) nx) (by kernel_rfl) ?_
  kernel_rfl
noncomputable def K11_0 (m:Nat) (c:Qd) (t0 t1 t2 t3 t4 t5:AV):Kt:=
 bnd (Xe (C m) 31) fun v0=>
 K11_1 m c t0 t1 t2 t3 t4 t5 v0
theorem K11_0_eq:D11 m c c11_0 (Z11 m) nx = (a6 (K11_0 m c) 0 1 2 3 4 5):=by
  refine Tq (D11 m c (pS1 c11_0) (D11 m c c11_1 (Z11 m) nx) nx) (by kernel_rfl) ?_
  rw [K11_1_eq m c ]
  kernel_rfl
theorem F11_eq (t0 t1 t2 t3 t4 t5:AV):Qu (C m) c Tryz.f11 [t0,t1,t2,t3,t4,t5] = K11_0 m c t0 t1 t2 t3 t4 t5:=by
  refine Tq ((D11 m c c11_0 (Z11 m) nx) (Xl [t0,t1,t2,t3,t4,t5])) (by kernel_rfl) ?_
  rw [K11_0_eq m c]
  rfl
noncomputable def c13_0:Code:=(Qw Tryz.f13)
noncomputable def c13_1:Code:=(pS2 c13_0)
noncomputable def c13_2:Code:=(pS2 c13_1)
noncomputable def c13_3:Code:=(pS2 c13_2)
noncomputable def c13_4:Code:=(pS2 c13_3)
noncomputable def c13_5:Code:=(pS2 c13_4)
noncomputable def c13_6:Code:=(pS2 (pS1 c13_4))
noncomputable def c13_7:Code:=(pL (pB c13_6))
noncomputable def c13_8:Code:=(pS2 c13_7)
noncomputable def c13_9:Code:=(pS2 c13_8)
noncomputable def c13_10:Code:=(pS2 c13_9)
noncomputable def Z13 (m:Nat):=fun (e:Nat→AV)=>Qo (C m) (Xh e Tryz.f13.results.toList)
noncomputable def D13 (m:Nat) (c:Qd) (p:Code) (k:TE→Kt) (x:Nat→TE→Kt):=Q2 p (C m) c k x (Z13 m)
noncomputable def Jn (m:Nat) (c:Qd) (t10 t14:AV):Kt:=
 bnd (ldO (C m) 37 t14) fun v0=>
 bnd (stO (C m) 37 t10 v0) fun _=>
 Qo (C m) [(some 37,t10),(none,(I 0))]
theorem K13_5_eq:D13 m c c13_5 (Z13 m) nx = (a2 (Jn m c) 10 14):=by
  refine Tq (D13 m c (pS1 c13_5) (Z13 m) nx) (by kernel_rfl) ?_
  kernel_rfl
noncomputable def K13_10 (m:Nat) (c:Qd) (h7:AV→AV→AV→AV→AV→Kt) (t4 t10 t14 t45 t46:AV):Kt:=
 bnd (Qi (C m) .add 3 t46 (I 1)) fun v0=>
 h7 t4 t10 t14 t45 v0
theorem K13_10_eq (h7:AV→AV→AV→AV→AV→Kt):D13 m c c13_10 (a5 h7 4 10 14 45 46) (Qa 0 (a2 (Jn m c) 10 14) nx) = (a5 (K13_10 m c h7) 4 10 14 45 46):=by
  kernel_rfl
noncomputable def K13_9 (m:Nat) (c:Qd) (h7:AV→AV→AV→AV→AV→Kt) (t4 t10 t14 t45 t46:AV):Kt:=
 atN 10 fun v0=>
 dIn fun sv0=>
 Qk (Xp (C m) 97 [(0,(S [0,0,0,0,0,0,0,0,0,0,0,0,0,0,0,0,0,0,0,0,0,0,0,0,0,0,0,0,0,0,0,0,0,0,0,0,0]))]) fun v1=>
 Vw (Vi (C m) 94 1 [(0,v1)]) (Nat.add v0 3) fun v2=>
 Xn (Qy (C m) c (fnV 39) [v2,t4]) fun v3 sv3=>
 Qk (Qh (C m) 37 t14 2) fun v4=>
 Ze (some true) (ldO (C m) 35 v4) (fun v5=>(Xk (ldO (C m) 35 v4) v5 sv3 && (Xk (ldO (C m) 35 v4) v5 sv0 && true))) fun v6=>
 Vw (Vi (C m) 35 1 [(0,v3)]) (Nat.add v0 6) fun v7=>
 Xn (Qv (C m) .append [35,35] [v6,v7]) fun v8 sv8=>
 Qk (Qh (C m) 37 t14 2) fun v9=>
 Xn (stO (C m) 35 v9 v8) fun v10 sv10=>
 K13_10 m c h7 t4 t10 t14 t45 t46
theorem K13_9_eq (h7:AV→AV→AV→AV→AV→Kt):D13 m c c13_9 (a5 h7 4 10 14 45 46) (Qa 0 (a2 (Jn m c) 10 14) nx) = (a5 (K13_9 m c h7) 4 10 14 45 46):=by
  refine Tq (D13 m c (pB (pS1 c13_9)) (D13 m c c13_10 (a5 h7 4 10 14 45 46) (Qa 0 (a2 (Jn m c) 10 14) nx)) (Qa 1 (D13 m c c13_10 (a5 h7 4 10 14 45 46) (Qa 0 (a2 (Jn m c) 10 14) nx)) (Qa 0 (a2 (Jn m c) 10 14) nx))) (by kernel_rfl) ?_
  rw [K13_10_eq m c h7 ]
  kernel_rfl
noncomputable def K13_8 (m:Nat) (c:Qd) (h7:AV→AV→AV→AV→AV→Kt) (t4 t10 t14 t45 t46 t47:AV):Kt:=
 ifB t47
 ((K13_9 m c h7 t4 t10 t14 t45 t46))
 ((Jn m c t10 t14))
theorem K13_8_eq (h7:AV→AV→AV→AV→AV→Kt):D13 m c c13_8 (a5 h7 4 10 14 45 46) (Qa 0 (a2 (Jn m c) 10 14) nx) = (a6 (K13_8 m c h7) 4 10 14 45 46 47):=by
  refine Tq (fun e=>ifB (e 47) ((D13 m c c13_9 (a5 h7 4 10 14 45 46) (Qa 0 (a2 (Jn m c) 10 14) nx)) e) ((a2 (Jn m c) 10 14) e)) (by kernel_rfl) ?_
  rw [K13_9_eq m c h7 ]
  kernel_rfl
noncomputable def L13_7_b (m:Nat) (c:Qd) (h7:AV→AV→AV→AV→AV→Kt) (t4 t10 t14 t45 t46:AV):Kt:=
 bnd (Qi (C m) .lss 3 t46 t45) fun v0=>
 K13_8 m c h7 t4 t10 t14 t45 t46 v0
noncomputable def L13_7 (m:Nat) (c:Qd) (n:Nat):AV→AV→AV→AV→AV→Kt:=
 Nat.rec (motive:=fun _=>AV→AV→AV→AV→AV→Kt) (fun t4 t10 t14 t45 t46=>noK) (fun _ ih=>L13_7_b m c ih) n
theorem L13_7_b_eq (h7:AV→AV→AV→AV→AV→Kt):D13 m c c13_7 (a5 h7 4 10 14 45 46) (Qa 0 (a2 (Jn m c) 10 14) nx) = fun e=>L13_7_b m c h7 (e 4) (e 10) (e 14) (e 45) (e 46):=by
  refine Tq (D13 m c (pS1 c13_7) (D13 m c c13_8 (a5 h7 4 10 14 45 46) (Qa 0 (a2 (Jn m c) 10 14) nx)) (Qa 0 (a2 (Jn m c) 10 14) nx)) (by kernel_rfl) ?_
  rw [K13_8_eq m c h7 ]
  kernel_rfl
theorem L13_7_eq (n:Nat):(Qn (fun k=>D13 m c c13_7 k (Qa 0 (a2 (Jn m c) 10 14) nx)) n) = (a5 (L13_7 m c n) 4 10 14 45 46):=by
  induction n with
  | zero=>rfl
  | succ n ih=>
    show D13 m c c13_7 (Qn (fun k=>D13 m c c13_7 k (Qa 0 (a2 (Jn m c) 10 14) nx)) n) (Qa 0 (a2 (Jn m c) 10 14) nx) = _
    rw [ih,L13_7_b_eq m c (L13_7 m c n)]
    rfl
theorem L13_7_succ (n:Nat):L13_7 m c (n + 1) = L13_7_b m c (L13_7 m c n):=rfl
noncomputable def K13_6 (m:Nat) (c:Qd) (t4 t10 t14 t45 t46:AV):Kt:=
 L13_7 m c m t4 t10 t14 t45 t46
theorem K13_6_eq:D13 m c c13_6 (a2 (Jn m c) 10 14) nx = (a5 (K13_6 m c) 4 10 14 45 46):=by
  refine Tq (Qn (fun k=>D13 m c c13_7 k (Qa 0 (a2 (Jn m c) 10 14) nx)) m) (by kernel_rfl) ?_
  rw [L13_7_eq m c m]
  kernel_rfl
noncomputable def K13_4 (m:Nat) (c:Qd) (t3 t4 t10 t14:AV):Kt:=
 K13_6 m c t4 t10 t14 t3 (I 0)
theorem K13_4_eq:D13 m c c13_4 (Z13 m) nx = (a4 (K13_4 m c) 3 4 10 14):=by
  refine Tq (D13 m c (pS1 (pS1 c13_4)) (D13 m c c13_6 (D13 m c c13_5 (Z13 m) nx) nx) nx) (by kernel_rfl) ?_
  rw [K13_5_eq m c ,K13_6_eq m c ]
  kernel_rfl
noncomputable def K13_3 (m:Nat) (c:Qd) (t0 t3 t4 t10 t12:AV):Kt:=
 bnd (ldO (C m) 34 t12) fun v0=>
 bnd (Xp (C m) 37 [(0,t0),(1,v0)]) fun v1=>
 bnd (Xe (C m) 37) fun v2=>
 bnd (stO (C m) 37 v2 v1) fun _=>
 K13_4 m c t3 t4 t10 v2
theorem K13_3_eq:D13 m c c13_3 (Z13 m) nx = (a5 (K13_3 m c) 0 3 4 10 12):=by
  refine Tq (D13 m c (pS1 c13_3) (D13 m c c13_4 (Z13 m) nx) nx) (by kernel_rfl) ?_
  rw [K13_4_eq m c ]
  kernel_rfl
noncomputable def K13_2 (m:Nat) (c:Qd) (t0 t3 t4 t10 t12 t13:AV):Kt:=
 bnd (Qi (C m) .neq 46 t13 (I 0)) fun v0=>
 bnd (gdO (Qc v0 false) (fun _=>.val t3)) fun v1=>
 bnd (gdO (Qc v0 false) (Qi (C m) .lss 3 v1 (I 1))) fun v2=>
 bnd (Qm v0 (B true) v2) fun v3=>
 bnd (gdO (Qc v3 false) (fun _=>.val t3)) fun v4=>
 bnd (gdO (Qc v3 false) (Qi (C m) .gtr 3 v4 (I 7))) fun v5=>
 bnd (Qm v3 (B true) v5) fun v6=>
 bnd (gdO (Qc v6 false) (fun _=>.val t4)) fun v7=>
 bnd (gdO (Qc v6 false) (Qi (C m) .lss 3 v7 (I 1))) fun v8=>
 bnd (Qm v6 (B true) v8) fun v9=>
 bnd (gdO (Qc v9 false) (fun _=>.val t4)) fun v10=>
 bnd (gdO (Qc v9 false) (Qi (C m) .gtr 3 v10 (I 256))) fun v11=>
 bnd (Qm v9 (B true) v11) fun v12=>
 ifB v12
 ((bnd (Xp (C m) 37 []) fun v13=>
 bnd (stO (C m) 37 t10 v13) fun _=>
 Qo (C m) [(some 37,t10),(none,(I 1))]))
 ((K13_3 m c t0 t3 t4 t10 t12))
theorem K13_2_eq:D13 m c c13_2 (Z13 m) nx = (a6 (K13_2 m c) 0 3 4 10 12 13):=by
  refine Tq (D13 m c (pS1 (pS1 c13_2)) (fun e=>ifB (e 40) ((D13 m c (pS1 (pC1 (pS2 (pS1 c13_2)))) (Z13 m) nx) e) ((D13 m c c13_3 (Z13 m) nx) e)) nx) (by kernel_rfl) ?_
  rw [K13_3_eq m c ]
  kernel_rfl
noncomputable def K13_1 (m:Nat) (c:Qd) (t0 t1 t2 t3 t4 t10:AV):Kt:=
 bnd (Qy (C m) c (fnV 12) [t0,(I 0)]) fun v0=>
 bnd (Qy (C m) c (fnV 38) [v0,t1,t2]) fun v1=>
 bnd (Vz v1 0) fun v2=>
 bnd (Vz v1 1) fun v3=>
 bnd (Xe (C m) 34) fun v4=>
 bnd (stO (C m) 34 v4 v2) fun _=>
 K13_2 m c t0 t3 t4 t10 v4 v3
theorem K13_1_eq:D13 m c c13_1 (Z13 m) nx = (a6 (K13_1 m c) 0 1 2 3 4 10):=by
  refine Tq (D13 m c (pS1 c13_1) (D13 m c c13_2 (Z13 m) nx) nx) (by kernel_rfl) ?_
  rw [K13_2_eq m c ]
  kernel_rfl
noncomputable def K13_0 (m:Nat) (c:Qd) (t0 t1 t2 t3 t4:AV):Kt:=
 bnd (Xe (C m) 37) fun v0=>
 K13_1 m c t0 t1 t2 t3 t4 v0
theorem K13_0_eq:D13 m c c13_0 (Z13 m) nx = (a5 (K13_0 m c) 0 1 2 3 4):=by
  refine Tq (D13 m c (pS1 c13_0) (D13 m c c13_1 (Z13 m) nx) nx) (by kernel_rfl) ?_
  rw [K13_1_eq m c ]
  kernel_rfl
theorem F13_eq (t0 t1 t2 t3 t4:AV):Qu (C m) c Tryz.f13 [t0,t1,t2,t3,t4] = K13_0 m c t0 t1 t2 t3 t4:=by
  refine Tq ((D13 m c c13_0 (Z13 m) nx) (Xl [t0,t1,t2,t3,t4])) (by kernel_rfl) ?_
  rw [K13_0_eq m c]
  rfl
noncomputable def c14_0:Code:=(Qw Tryz.f14)
noncomputable def c14_1:Code:=(pS2 c14_0)
noncomputable def c14_2:Code:=(pS2 c14_1)
noncomputable def c14_3:Code:=(pS2 c14_2)
noncomputable def c14_4:Code:=(pS2 c14_3)
noncomputable def c14_5:Code:=(pS2 (pS1 c14_3))
noncomputable def c14_6:Code:=(pL (pB c14_5))
noncomputable def c14_7:Code:=(pS2 c14_6)
noncomputable def c14_8:Code:=(pS2 c14_7)
noncomputable def c14_9:Code:=(pS2 c14_8)
noncomputable def c14_10:Code:=(pS2 (pB (pS1 c14_8)))
noncomputable def Z14 (m:Nat):=fun (e:Nat→AV)=>Qo (C m) (Xh e Tryz.f14.results.toList)
noncomputable def D14 (m:Nat) (c:Qd) (p:Code) (k:TE→Kt) (x:Nat→TE→Kt):=Q2 p (C m) c k x (Z14 m)
noncomputable def Vq (m:Nat) (c:Qd) (t10 t12:AV):Kt:=
 bnd (ldO (C m) 40 t12) fun v0=>
 bnd (stO (C m) 40 t10 v0) fun _=>
 Qo (C m) [(some 40,t10),(none,(I 0))]
theorem K14_4_eq:D14 m c c14_4 (Z14 m) nx = (a2 (Vq m c) 10 12):=by
  refine Tq (D14 m c (pS1 c14_4) (Z14 m) nx) (by kernel_rfl) ?_
  kernel_rfl
noncomputable def K14_9 (m:Nat) (c:Qd) (h6:AV→AV→AV→AV→AV→AV→AV→Kt) (t0 t2 t3 t10 t12 t34 t35:AV):Kt:=
 bnd (Qi (C m) .add 3 t35 (I 1)) fun v0=>
 h6 t0 t2 t3 t10 t12 t34 v0
theorem K14_9_eq (h6:AV→AV→AV→AV→AV→AV→AV→Kt):D14 m c c14_9 (a7 h6 0 2 3 10 12 34 35) (Qa 0 (a2 (Vq m c) 10 12) nx) = (a7 (K14_9 m c h6) 0 2 3 10 12 34 35):=by
  kernel_rfl
noncomputable def K14_10 (m:Nat) (c:Qd) (h6:AV→AV→AV→AV→AV→AV→AV→Kt) (t0 t2 t3 t10 t12 t13 t34 t35:AV):Kt:=
 bnd (Qi (C m) .add 3 t13 (I 1)) fun v0=>
 bnd (Qy (C m) c (fnV 12) [t0,v0]) fun v1=>
 bnd (Qy (C m) c (fnV 40) [v1,t2,t3]) fun v2=>
 bnd (Vz v2 0) fun v3=>
 bnd (Vz v2 1) fun v4=>
 bnd (Xe (C m) 100) fun v5=>
 bnd (stO (C m) 100 v5 v3) fun _=>
 bnd (Qi (C m) .neq 46 v4 (I 0)) fun v6=>
 ifB v6
 ((bnd (Xp (C m) 40 []) fun v7=>
 bnd (stO (C m) 40 t10 v7) fun _=>
 Qo (C m) [(some 40,t10),(none,v4)]))
 ((bnd (Qh (C m) 40 t12 2) fun v8=>
 bnd (ldO (C m) 38 v8) fun v9=>
 bnd (ldO (C m) 100 v5) fun v10=>
 bnd (Xp (C m) 103 [(0,v10)]) fun v11=>
 bnd (Vi (C m) 38 1 [(0,v11)]) fun v12=>
 bnd (Qv (C m) .append [38,38] [v9,v12]) fun v13=>
 bnd (Qh (C m) 40 t12 2) fun v14=>
 bnd (stO (C m) 38 v14 v13) fun _=>
 K14_9 m c h6 t0 t2 t3 t10 t12 t34 t35))
theorem K14_10_eq (h6:AV→AV→AV→AV→AV→AV→AV→Kt):D14 m c c14_10 (a7 (K14_9 m c h6) 0 2 3 10 12 34 35) (Qa 1 (a7 (K14_9 m c h6) 0 2 3 10 12 34 35) (Qa 0 (a2 (Vq m c) 10 12) nx)) = (a8 (K14_10 m c h6) 0 2 3 10 12 13 34 35):=by
  refine Tq (D14 m c (pS1 c14_10) (D14 m c (pS1 (pS1 (pS2 c14_10))) (fun e=>ifB (e 49) ((D14 m c (pS1 (pC1 (pS2 (pS1 (pS2 c14_10))))) (Z14 m) (Qa 1 (a7 (K14_9 m c h6) 0 2 3 10 12 34 35) (Qa 0 (a2 (Vq m c) 10 12) nx))) e) ((D14 m c (pS2 (pS2 c14_10)) (a7 (K14_9 m c h6) 0 2 3 10 12 34 35) (Qa 1 (a7 (K14_9 m c h6) 0 2 3 10 12 34 35) (Qa 0 (a2 (Vq m c) 10 12) nx))) e)) (Qa 1 (a7 (K14_9 m c h6) 0 2 3 10 12 34 35) (Qa 0 (a2 (Vq m c) 10 12) nx))) (Qa 1 (a7 (K14_9 m c h6) 0 2 3 10 12 34 35) (Qa 0 (a2 (Vq m c) 10 12) nx))) (by kernel_rfl) ?_
  kernel_rfl
noncomputable def K14_8 (m:Nat) (c:Qd) (h6:AV→AV→AV→AV→AV→AV→AV→Kt) (t0 t2 t3 t10 t12 t34 t35:AV):Kt:=
 K14_10 m c h6 t0 t2 t3 t10 t12 t35 t34 t35
theorem K14_8_eq (h6:AV→AV→AV→AV→AV→AV→AV→Kt):D14 m c c14_8 (a7 h6 0 2 3 10 12 34 35) (Qa 0 (a2 (Vq m c) 10 12) nx) = (a7 (K14_8 m c h6) 0 2 3 10 12 34 35):=by
  refine Tq (D14 m c (pS1 (pB (pS1 c14_8))) (D14 m c c14_10 (D14 m c c14_9 (a7 h6 0 2 3 10 12 34 35) (Qa 0 (a2 (Vq m c) 10 12) nx)) (Qa 1 (D14 m c c14_9 (a7 h6 0 2 3 10 12 34 35) (Qa 0 (a2 (Vq m c) 10 12) nx)) (Qa 0 (a2 (Vq m c) 10 12) nx))) (Qa 1 (D14 m c c14_9 (a7 h6 0 2 3 10 12 34 35) (Qa 0 (a2 (Vq m c) 10 12) nx)) (Qa 0 (a2 (Vq m c) 10 12) nx))) (by kernel_rfl) ?_
  rw [K14_9_eq m c h6 ,K14_10_eq m c h6 ]
  kernel_rfl
noncomputable def K14_7 (m:Nat) (c:Qd) (h6:AV→AV→AV→AV→AV→AV→AV→Kt) (t0 t2 t3 t10 t12 t34 t35 t36:AV):Kt:=
 ifB t36
 ((K14_8 m c h6 t0 t2 t3 t10 t12 t34 t35))
 ((Vq m c t10 t12))
theorem K14_7_eq (h6:AV→AV→AV→AV→AV→AV→AV→Kt):D14 m c c14_7 (a7 h6 0 2 3 10 12 34 35) (Qa 0 (a2 (Vq m c) 10 12) nx) = (a8 (K14_7 m c h6) 0 2 3 10 12 34 35 36):=by
  refine Tq (fun e=>ifB (e 36) ((D14 m c c14_8 (a7 h6 0 2 3 10 12 34 35) (Qa 0 (a2 (Vq m c) 10 12) nx)) e) ((a2 (Vq m c) 10 12) e)) (by kernel_rfl) ?_
  rw [K14_8_eq m c h6 ]
  kernel_rfl
noncomputable def L14_6_b (m:Nat) (c:Qd) (h6:AV→AV→AV→AV→AV→AV→AV→Kt) (t0 t2 t3 t10 t12 t34 t35:AV):Kt:=
 bnd (Qi (C m) .lss 3 t35 t34) fun v0=>
 K14_7 m c h6 t0 t2 t3 t10 t12 t34 t35 v0
noncomputable def L14_6 (m:Nat) (c:Qd) (n:Nat):AV→AV→AV→AV→AV→AV→AV→Kt:=
 Nat.rec (motive:=fun _=>AV→AV→AV→AV→AV→AV→AV→Kt) (fun t0 t2 t3 t10 t12 t34 t35=>noK) (fun _ ih=>L14_6_b m c ih) n
theorem L14_6_b_eq (h6:AV→AV→AV→AV→AV→AV→AV→Kt):D14 m c c14_6 (a7 h6 0 2 3 10 12 34 35) (Qa 0 (a2 (Vq m c) 10 12) nx) = fun e=>L14_6_b m c h6 (e 0) (e 2) (e 3) (e 10) (e 12) (e 34) (e 35):=by
  refine Tq (D14 m c (pS1 c14_6) (D14 m c c14_7 (a7 h6 0 2 3 10 12 34 35) (Qa 0 (a2 (Vq m c) 10 12) nx)) (Qa 0 (a2 (Vq m c) 10 12) nx)) (by kernel_rfl) ?_
  rw [K14_7_eq m c h6 ]
  kernel_rfl
theorem L14_6_eq (n:Nat):(Qn (fun k=>D14 m c c14_6 k (Qa 0 (a2 (Vq m c) 10 12) nx)) n) = (a7 (L14_6 m c n) 0 2 3 10 12 34 35):=by
  induction n with
  | zero=>rfl
  | succ n ih=>
    show D14 m c c14_6 (Qn (fun k=>D14 m c c14_6 k (Qa 0 (a2 (Vq m c) 10 12) nx)) n) (Qa 0 (a2 (Vq m c) 10 12) nx) = _
    rw [ih,L14_6_b_eq m c (L14_6 m c n)]
    rfl
theorem L14_6_succ (n:Nat):L14_6 m c (n + 1) = L14_6_b m c (L14_6 m c n):=rfl
noncomputable def K14_5 (m:Nat) (c:Qd) (t0 t2 t3 t10 t12 t34 t35:AV):Kt:=
 L14_6 m c m t0 t2 t3 t10 t12 t34 t35
theorem K14_5_eq:D14 m c c14_5 (a2 (Vq m c) 10 12) nx = (a7 (K14_5 m c) 0 2 3 10 12 34 35):=by
  refine Tq (Qn (fun k=>D14 m c c14_6 k (Qa 0 (a2 (Vq m c) 10 12) nx)) m) (by kernel_rfl) ?_
  rw [L14_6_eq m c m]
  kernel_rfl
noncomputable def K14_3 (m:Nat) (c:Qd) (t0 t1 t2 t3 t10 t12:AV):Kt:=
 K14_5 m c t0 t2 t3 t10 t12 t1 (I 0)
theorem K14_3_eq:D14 m c c14_3 (Z14 m) nx = (a6 (K14_3 m c) 0 1 2 3 10 12):=by
  refine Tq (D14 m c (pS1 (pS1 c14_3)) (D14 m c c14_5 (D14 m c c14_4 (Z14 m) nx) nx) nx) (by kernel_rfl) ?_
  rw [K14_4_eq m c ,K14_5_eq m c ]
  kernel_rfl
noncomputable def K14_2 (m:Nat) (c:Qd) (t0 t1 t2 t3 t4 t10:AV):Kt:=
 bnd (Xp (C m) 40 [(0,t0),(1,t4)]) fun v0=>
 bnd (Xe (C m) 40) fun v1=>
 bnd (stO (C m) 40 v1 v0) fun _=>
 K14_3 m c t0 t1 t2 t3 t10 v1
theorem K14_2_eq:D14 m c c14_2 (Z14 m) nx = (a6 (K14_2 m c) 0 1 2 3 4 10):=by
  refine Tq (D14 m c (pS1 c14_2) (D14 m c c14_3 (Z14 m) nx) nx) (by kernel_rfl) ?_
  rw [K14_3_eq m c ]
  kernel_rfl
noncomputable def K14_1 (m:Nat) (c:Qd) (t0 t1 t2 t3 t4 t10:AV):Kt:=
 bnd (Qi (C m) .lss 3 t1 (I 1)) fun v0=>
 bnd (gdO (Qc v0 false) (fun _=>.val t1)) fun v1=>
 bnd (gdO (Qc v0 false) (Qi (C m) .gtr 3 v1 (I 16))) fun v2=>
 bnd (Qm v0 (B true) v2) fun v3=>
 bnd (gdO (Qc v3 false) (fun _=>.val t4)) fun v4=>
 bnd (gdO (Qc v3 false) (Qi (C m) .lss 3 v4 (I 1))) fun v5=>
 bnd (Qm v3 (B true) v5) fun v6=>
 bnd (gdO (Qc v6 false) (fun _=>.val t4)) fun v7=>
 bnd (gdO (Qc v6 false) (Qi (C m) .gtr 3 v7 (I 64))) fun v8=>
 bnd (Qm v6 (B true) v8) fun v9=>
 ifB v9
 ((bnd (Xp (C m) 40 []) fun v10=>
 bnd (stO (C m) 40 t10 v10) fun _=>
 Qo (C m) [(some 40,t10),(none,(I 1))]))
 ((K14_2 m c t0 t1 t2 t3 t4 t10))
theorem K14_1_eq:D14 m c c14_1 (Z14 m) nx = (a6 (K14_1 m c) 0 1 2 3 4 10):=by
  refine Tq (D14 m c (pS1 (pS1 c14_1)) (fun e=>ifB (e 29) ((D14 m c (pS1 (pC1 (pS2 (pS1 c14_1)))) (Z14 m) nx) e) ((D14 m c c14_2 (Z14 m) nx) e)) nx) (by kernel_rfl) ?_
  rw [K14_2_eq m c ]
  kernel_rfl
noncomputable def K14_0 (m:Nat) (c:Qd) (t0 t1 t2 t3 t4:AV):Kt:=
 bnd (Xe (C m) 40) fun v0=>
 K14_1 m c t0 t1 t2 t3 t4 v0
theorem K14_0_eq:D14 m c c14_0 (Z14 m) nx = (a5 (K14_0 m c) 0 1 2 3 4):=by
  refine Tq (D14 m c (pS1 c14_0) (D14 m c c14_1 (Z14 m) nx) nx) (by kernel_rfl) ?_
  rw [K14_1_eq m c ]
  kernel_rfl
theorem F14_eq (t0 t1 t2 t3 t4:AV):Qu (C m) c Tryz.f14 [t0,t1,t2,t3,t4] = K14_0 m c t0 t1 t2 t3 t4:=by
  refine Tq ((D14 m c c14_0 (Z14 m) nx) (Xl [t0,t1,t2,t3,t4])) (by kernel_rfl) ?_
  rw [K14_0_eq m c]
  rfl
noncomputable def c15_0:Code:=(Qw Tryz.f15)
noncomputable def c15_1:Code:=(pS2 c15_0)
noncomputable def c15_2:Code:=(pS2 c15_1)
noncomputable def c15_3:Code:=(pS2 c15_2)
noncomputable def c15_4:Code:=(pS2 c15_3)
noncomputable def c15_5:Code:=(pS2 c15_4)
noncomputable def c15_6:Code:=(pS2 (pS1 c15_4))
noncomputable def c15_7:Code:=(pL (pB c15_6))
noncomputable def c15_8:Code:=(pS2 c15_7)
noncomputable def c15_9:Code:=(pS2 c15_8)
noncomputable def c15_10:Code:=(pS2 c15_9)
noncomputable def Z15 (m:Nat):=fun (e:Nat→AV)=>Qo (C m) (Xh e Tryz.f15.results.toList)
noncomputable def D15 (m:Nat) (c:Qd) (p:Code) (k:TE→Kt) (x:Nat→TE→Kt):=Q2 p (C m) c k x (Z15 m)
noncomputable def Jo (m:Nat) (c:Qd) (t10 t14:AV):Kt:=
 bnd (ldO (C m) 43 t14) fun v0=>
 bnd (stO (C m) 43 t10 v0) fun _=>
 Qo (C m) [(some 43,t10),(none,(I 0))]
theorem K15_5_eq:D15 m c c15_5 (Z15 m) nx = (a2 (Jo m c) 10 14):=by
  refine Tq (D15 m c (pS1 c15_5) (Z15 m) nx) (by kernel_rfl) ?_
  kernel_rfl
noncomputable def K15_10 (m:Nat) (c:Qd) (h7:AV→AV→AV→AV→AV→AV→Kt) (t2 t10 t12 t14 t44 t45:AV):Kt:=
 bnd (Qi (C m) .add 3 t45 (I 1)) fun v0=>
 h7 t2 t10 t12 t14 t44 v0
theorem K15_10_eq (h7:AV→AV→AV→AV→AV→AV→Kt):D15 m c c15_10 (a6 h7 2 10 12 14 44 45) (Qa 0 (a2 (Jo m c) 10 14) nx) = (a6 (K15_10 m c h7) 2 10 12 14 44 45):=by
  kernel_rfl
noncomputable def K15_9 (m:Nat) (c:Qd) (h7:AV→AV→AV→AV→AV→AV→Kt) (t2 t10 t12 t14 t44 t45:AV):Kt:=
 atN 11 fun v0=>
 dIn fun sv0=>
 Qr (ldO (C m) 115 t12) fun v1=>
 Qk (Xp (C m) 117 [(0,v1),(2,(I (-1)))]) fun v2=>
 Vw (Vi (C m) 111 1 [(0,v2)]) (Nat.add v0 4) fun v3=>
 Xn (Qy (C m) c (fnV 42) [v3,t2]) fun v4 sv4=>
 Qk (Qh (C m) 43 t14 1) fun v5=>
 Ze (some true) (ldO (C m) 41 v5) (fun v6=>(Xk (ldO (C m) 41 v5) v6 sv4 && (Xk (ldO (C m) 41 v5) v6 sv0 && true))) fun v7=>
 Vw (Vi (C m) 41 1 [(0,v4)]) (Nat.add v0 7) fun v8=>
 Xn (Qv (C m) .append [41,41] [v7,v8]) fun v9 sv9=>
 Qk (Qh (C m) 43 t14 1) fun v10=>
 Xn (stO (C m) 41 v10 v9) fun v11 sv11=>
 K15_10 m c h7 t2 t10 t12 t14 t44 t45
theorem K15_9_eq (h7:AV→AV→AV→AV→AV→AV→Kt):D15 m c c15_9 (a6 h7 2 10 12 14 44 45) (Qa 0 (a2 (Jo m c) 10 14) nx) = (a6 (K15_9 m c h7) 2 10 12 14 44 45):=by
  refine Tq (D15 m c (pB (pS1 c15_9)) (D15 m c c15_10 (a6 h7 2 10 12 14 44 45) (Qa 0 (a2 (Jo m c) 10 14) nx)) (Qa 1 (D15 m c c15_10 (a6 h7 2 10 12 14 44 45) (Qa 0 (a2 (Jo m c) 10 14) nx)) (Qa 0 (a2 (Jo m c) 10 14) nx))) (by kernel_rfl) ?_
  rw [K15_10_eq m c h7 ]
  kernel_rfl
noncomputable def K15_8 (m:Nat) (c:Qd) (h7:AV→AV→AV→AV→AV→AV→Kt) (t2 t10 t12 t14 t44 t45 t46:AV):Kt:=
 ifB t46
 ((K15_9 m c h7 t2 t10 t12 t14 t44 t45))
 ((Jo m c t10 t14))
theorem K15_8_eq (h7:AV→AV→AV→AV→AV→AV→Kt):D15 m c c15_8 (a6 h7 2 10 12 14 44 45) (Qa 0 (a2 (Jo m c) 10 14) nx) = (a7 (K15_8 m c h7) 2 10 12 14 44 45 46):=by
  refine Tq (fun e=>ifB (e 46) ((D15 m c c15_9 (a6 h7 2 10 12 14 44 45) (Qa 0 (a2 (Jo m c) 10 14) nx)) e) ((a2 (Jo m c) 10 14) e)) (by kernel_rfl) ?_
  rw [K15_9_eq m c h7 ]
  kernel_rfl
noncomputable def L15_7_b (m:Nat) (c:Qd) (h7:AV→AV→AV→AV→AV→AV→Kt) (t2 t10 t12 t14 t44 t45:AV):Kt:=
 bnd (Qi (C m) .lss 3 t45 t44) fun v0=>
 K15_8 m c h7 t2 t10 t12 t14 t44 t45 v0
noncomputable def L15_7 (m:Nat) (c:Qd) (n:Nat):AV→AV→AV→AV→AV→AV→Kt:=
 Nat.rec (motive:=fun _=>AV→AV→AV→AV→AV→AV→Kt) (fun t2 t10 t12 t14 t44 t45=>noK) (fun _ ih=>L15_7_b m c ih) n
theorem L15_7_b_eq (h7:AV→AV→AV→AV→AV→AV→Kt):D15 m c c15_7 (a6 h7 2 10 12 14 44 45) (Qa 0 (a2 (Jo m c) 10 14) nx) = fun e=>L15_7_b m c h7 (e 2) (e 10) (e 12) (e 14) (e 44) (e 45):=by
  refine Tq (D15 m c (pS1 c15_7) (D15 m c c15_8 (a6 h7 2 10 12 14 44 45) (Qa 0 (a2 (Jo m c) 10 14) nx)) (Qa 0 (a2 (Jo m c) 10 14) nx)) (by kernel_rfl) ?_
  rw [K15_8_eq m c h7 ]
  kernel_rfl
theorem L15_7_eq (n:Nat):(Qn (fun k=>D15 m c c15_7 k (Qa 0 (a2 (Jo m c) 10 14) nx)) n) = (a6 (L15_7 m c n) 2 10 12 14 44 45):=by
  induction n with
  | zero=>rfl
  | succ n ih=>
    show D15 m c c15_7 (Qn (fun k=>D15 m c c15_7 k (Qa 0 (a2 (Jo m c) 10 14) nx)) n) (Qa 0 (a2 (Jo m c) 10 14) nx) = _
    rw [ih,L15_7_b_eq m c (L15_7 m c n)]
    rfl
theorem L15_7_succ (n:Nat):L15_7 m c (n + 1) = L15_7_b m c (L15_7 m c n):=rfl
noncomputable def K15_6 (m:Nat) (c:Qd) (t2 t10 t12 t14 t44 t45:AV):Kt:=
 L15_7 m c m t2 t10 t12 t14 t44 t45
theorem K15_6_eq:D15 m c c15_6 (a2 (Jo m c) 10 14) nx = (a6 (K15_6 m c) 2 10 12 14 44 45):=by
  refine Tq (Qn (fun k=>D15 m c c15_7 k (Qa 0 (a2 (Jo m c) 10 14) nx)) m) (by kernel_rfl) ?_
  rw [L15_7_eq m c m]
  kernel_rfl
noncomputable def K15_4 (m:Nat) (c:Qd) (t1 t2 t10 t12 t14:AV):Kt:=
 K15_6 m c t2 t10 t12 t14 t1 (I 0)
theorem K15_4_eq:D15 m c c15_4 (Z15 m) nx = (a5 (K15_4 m c) 1 2 10 12 14):=by
  refine Tq (D15 m c (pS1 (pS1 c15_4)) (D15 m c c15_6 (D15 m c c15_5 (Z15 m) nx) nx) nx) (by kernel_rfl) ?_
  rw [K15_5_eq m c ,K15_6_eq m c ]
  kernel_rfl
noncomputable def K15_3 (m:Nat) (c:Qd) (t0 t1 t2 t10 t12:AV):Kt:=
 bnd (Xp (C m) 43 [(0,t0)]) fun v0=>
 bnd (Xe (C m) 43) fun v1=>
 bnd (stO (C m) 43 v1 v0) fun _=>
 K15_4 m c t1 t2 t10 t12 v1
theorem K15_3_eq:D15 m c c15_3 (Z15 m) nx = (a5 (K15_3 m c) 0 1 2 10 12):=by
  refine Tq (D15 m c (pS1 c15_3) (D15 m c c15_4 (Z15 m) nx) nx) (by kernel_rfl) ?_
  rw [K15_4_eq m c ]
  kernel_rfl
noncomputable def K15_2 (m:Nat) (c:Qd) (t0 t1 t2 t10 t12 t13:AV):Kt:=
 bnd (Qi (C m) .neq 46 t13 (I 0)) fun v0=>
 bnd (gdO (Qc v0 false) (fun _=>.val t1)) fun v1=>
 bnd (gdO (Qc v0 false) (Qi (C m) .lss 3 v1 (I 1))) fun v2=>
 bnd (Qm v0 (B true) v2) fun v3=>
 bnd (gdO (Qc v3 false) (fun _=>.val t1)) fun v4=>
 bnd (gdO (Qc v3 false) (Qi (C m) .gtr 3 v4 (I 7))) fun v5=>
 bnd (Qm v3 (B true) v5) fun v6=>
 bnd (gdO (Qc v6 false) (fun _=>.val t2)) fun v7=>
 bnd (gdO (Qc v6 false) (Qi (C m) .lss 3 v7 (I 1))) fun v8=>
 bnd (Qm v6 (B true) v8) fun v9=>
 bnd (gdO (Qc v9 false) (fun _=>.val t2)) fun v10=>
 bnd (gdO (Qc v9 false) (Qi (C m) .gtr 3 v10 (I 256))) fun v11=>
 bnd (Qm v9 (B true) v11) fun v12=>
 ifB v12
 ((bnd (Xp (C m) 43 []) fun v13=>
 bnd (stO (C m) 43 t10 v13) fun _=>
 Qo (C m) [(some 43,t10),(none,(I 1))]))
 ((K15_3 m c t0 t1 t2 t10 t12))
theorem K15_2_eq:D15 m c c15_2 (Z15 m) nx = (a6 (K15_2 m c) 0 1 2 10 12 13):=by
  refine Tq (D15 m c (pS1 (pS1 c15_2)) (fun e=>ifB (e 40) ((D15 m c (pS1 (pC1 (pS2 (pS1 c15_2)))) (Z15 m) nx) e) ((D15 m c c15_3 (Z15 m) nx) e)) nx) (by kernel_rfl) ?_
  rw [K15_3_eq m c ]
  kernel_rfl
noncomputable def K15_1 (m:Nat) (c:Qd) (t0 t1 t2 t3 t4 t10:AV):Kt:=
 bnd (Qy (C m) c (fnV 12) [t0,(I 0)]) fun v0=>
 bnd (Qy (C m) c (fnV 41) [v0,t3,t4]) fun v1=>
 bnd (Vz v1 0) fun v2=>
 bnd (Vz v1 1) fun v3=>
 bnd (Xe (C m) 115) fun v4=>
 bnd (stO (C m) 115 v4 v2) fun _=>
 K15_2 m c t0 t1 t2 t10 v4 v3
theorem K15_1_eq:D15 m c c15_1 (Z15 m) nx = (a6 (K15_1 m c) 0 1 2 3 4 10):=by
  refine Tq (D15 m c (pS1 c15_1) (D15 m c c15_2 (Z15 m) nx) nx) (by kernel_rfl) ?_
  rw [K15_2_eq m c ]
  kernel_rfl
noncomputable def K15_0 (m:Nat) (c:Qd) (t0 t1 t2 t3 t4:AV):Kt:=
 bnd (Xe (C m) 43) fun v0=>
 K15_1 m c t0 t1 t2 t3 t4 v0
theorem K15_0_eq:D15 m c c15_0 (Z15 m) nx = (a5 (K15_0 m c) 0 1 2 3 4):=by
  refine Tq (D15 m c (pS1 c15_0) (D15 m c c15_1 (Z15 m) nx) nx) (by kernel_rfl) ?_
  rw [K15_1_eq m c ]
  kernel_rfl
theorem F15_eq (t0 t1 t2 t3 t4:AV):Qu (C m) c Tryz.f15 [t0,t1,t2,t3,t4] = K15_0 m c t0 t1 t2 t3 t4:=by
  refine Tq ((D15 m c c15_0 (Z15 m) nx) (Xl [t0,t1,t2,t3,t4])) (by kernel_rfl) ?_
  rw [K15_0_eq m c]
  rfl
noncomputable def c42_0:Code:=(Qw Tryz.f42)
noncomputable def c42_1:Code:=(pS2 c42_0)
noncomputable def c42_2:Code:=(pS2 c42_1)
noncomputable def c42_3:Code:=(pS2 c42_2)
noncomputable def c42_4:Code:=(pS2 c42_3)
noncomputable def c42_5:Code:=(pS2 c42_4)
noncomputable def c42_6:Code:=(pS2 c42_5)
noncomputable def c42_7:Code:=(pS2 c42_6)
noncomputable def c42_8:Code:=(pL (pB (pS1 c42_6)))
noncomputable def Z42 (m:Nat):=fun (e:Nat→AV)=>Qo (C m) (Xh e Tryz.f42.results.toList)
noncomputable def D42 (m:Nat) (c:Qd) (p:Code) (k:TE→Kt) (x:Nat→TE→Kt):=Q2 p (C m) c k x (Z42 m)
noncomputable def K42_7 (m:Nat) (c:Qd) (t7:AV):Kt:=
 Qo (C m) [(none,t7)]
theorem K42_7_eq:D42 m c c42_7 (Z42 m) nx = (a1 (K42_7 m c) 7):=by
  refine Tq (D42 m c (pS1 c42_7) (Z42 m) nx) (by kernel_rfl) ?_
  kernel_rfl
noncomputable def L42_8_b (m:Nat) (c:Qd) (h8:AV→AV→Kt) (t7 t8:AV):Kt:=
 bnd (Qv (C m) .len [111] [t7]) fun v0=>
 bnd (Qi (C m) .lss 3 t8 v0) fun v1=>
 ifB v1
 ((dIn fun sv2=>
 Qr (slcO (C m) 111 t7 (some t8) none none) fun v3=>
 Qr (slcO (C m) 111 t7 none (some t8) none) fun v4=>
 Xn (Qv (C m) .copy [111,111] [v3,v4]) fun v5 sv5=>
 Qk (Qi (C m) .add 3 t8 v5) fun v6=>
 h8 t7 v6))
 ((K42_7 m c t7))
noncomputable def L42_8 (m:Nat) (c:Qd) (n:Nat):AV→AV→Kt:=
 Nat.rec (motive:=fun _=>AV→AV→Kt) (fun t7 t8=>noK) (fun _ ih=>L42_8_b m c ih) n
theorem L42_8_b_eq (h8:AV→AV→Kt):D42 m c c42_8 (a2 h8 7 8) (Qa 0 (a1 (K42_7 m c) 7) nx) = fun e=>L42_8_b m c h8 (e 7) (e 8):=by
  refine Tq (D42 m c (pS1 (pS1 c42_8)) (fun e=>ifB (e 37) ((D42 m c (pB (pS2 c42_8)) (a2 h8 7 8) (Qa 1 (a2 h8 7 8) (Qa 0 (a1 (K42_7 m c) 7) nx))) e) ((a1 (K42_7 m c) 7) e)) (Qa 0 (a1 (K42_7 m c) 7) nx)) (by kernel_rfl) ?_
  kernel_rfl
theorem L42_8_eq (n:Nat):(Qn (fun k=>D42 m c c42_8 k (Qa 0 (a1 (K42_7 m c) 7) nx)) n) = (a2 (L42_8 m c n) 7 8):=by
  induction n with
  | zero=>rfl
  | succ n ih=>
    show D42 m c c42_8 (Qn (fun k=>D42 m c c42_8 k (Qa 0 (a1 (K42_7 m c) 7) nx)) n) (Qa 0 (a1 (K42_7 m c) 7) nx) = _
    rw [ih,L42_8_b_eq m c (L42_8 m c n)]
    rfl
theorem L42_8_succ (n:Nat):L42_8 m c (n + 1) = L42_8_b m c (L42_8 m c n):=rfl
noncomputable def K42_6 (m:Nat) (c:Qd) (t7 t8:AV):Kt:=
 L42_8 m c m t7 t8
theorem K42_6_eq:D42 m c c42_6 (Z42 m) nx = (a2 (K42_6 m c) 7 8):=by
  refine Tq (Qn (fun k=>D42 m c c42_8 k (Qa 0 (D42 m c c42_7 (Z42 m) nx) nx)) m) (by kernel_rfl) ?_
  rw [K42_7_eq m c ,L42_8_eq m c m]
  kernel_rfl
noncomputable def K42_5 (m:Nat) (c:Qd) (t0 t7:AV):Kt:=
 bnd (Qv (C m) .copy [111,111] [t7,t0]) fun v0=>
 K42_6 m c t7 v0
theorem K42_5_eq:D42 m c c42_5 (Z42 m) nx = (a2 (K42_5 m c) 0 7):=by
  refine Tq (D42 m c (pS1 c42_5) (D42 m c c42_6 (Z42 m) nx) nx) (by kernel_rfl) ?_
  rw [K42_6_eq m c ]
  kernel_rfl
noncomputable def K42_4 (m:Nat) (c:Qd) (t0 t6:AV):Kt:=
 bnd (cvO (C m) 195 3 t6) fun v0=>
 bnd (mksO (C m) 111 v0 v0) fun v1=>
 K42_5 m c t0 v1
theorem K42_4_eq:D42 m c c42_4 (Z42 m) nx = (a2 (K42_4 m c) 0 6):=by
  refine Tq (D42 m c (pS1 c42_4) (D42 m c c42_5 (Z42 m) nx) nx) (by kernel_rfl) ?_
  rw [K42_5_eq m c ]
  kernel_rfl
noncomputable def K42_3 (m:Nat) (c:Qd) (t0 t5 t6:AV):Kt:=
 bnd (Qi (C m) .gtr 195 t5 (Iu 0)) fun v0=>
 bnd (gdO (Qc v0 false) (fun _=>.val t6)) fun v1=>
 bnd (gdO (Qc v0 false) (Qi (C m) .gtr 195 v1 (Iu 9223372036854775807))) fun v2=>
 bnd (Qm v0 (B true) v2) fun v3=>
 ifB v3
 ((bnd (noO) fun v4=>
 bnd (noO) fun _=>
 K42_4 m c t0 t6))
 ((K42_4 m c t0 t6))
theorem K42_3_eq:D42 m c c42_3 (Z42 m) nx = (a3 (K42_3 m c) 0 5 6):=by
  refine Tq (D42 m c (pS1 (pS1 c42_3)) (fun e=>ifB (e 26) ((D42 m c (pC1 (pS2 (pS1 c42_3))) (D42 m c c42_4 (Z42 m) nx) nx) e) ((D42 m c c42_4 (Z42 m) nx) e)) nx) (by kernel_rfl) ?_
  rw [K42_4_eq m c ]
  kernel_rfl
noncomputable def K42_2 (m:Nat) (c:Qd) (t0 t1:AV):Kt:=
 bnd (Qv (C m) .len [111] [t0]) fun v0=>
 bnd (cvO (C m) 3 195 v0) fun v1=>
 bnd (cvO (C m) 3 195 t1) fun v2=>
 bnd (Qy (C m) c (fnV 87) [v1,v2]) fun v3=>
 bnd (Vz v3 0) fun v4=>
 bnd (Vz v3 1) fun v5=>
 K42_3 m c t0 v4 v5
theorem K42_2_eq:D42 m c c42_2 (Z42 m) nx = (a2 (K42_2 m c) 0 1):=by
  refine Tq (D42 m c (pS1 c42_2) (D42 m c c42_3 (Z42 m) nx) nx) (by kernel_rfl) ?_
  rw [K42_3_eq m c ]
  kernel_rfl
noncomputable def K42_1 (m:Nat) (c:Qd) (t0 t1:AV):Kt:=
 bnd (Qi (C m) .lss 3 t1 (I 0)) fun v0=>
 ifB v0
 ((bnd (noO) fun v1=>
 bnd (noO) fun _=>
 K42_2 m c t0 t1))
 ((K42_2 m c t0 t1))
theorem K42_1_eq:D42 m c c42_1 (Z42 m) nx = (a2 (K42_1 m c) 0 1):=by
  refine Tq (D42 m c (pS1 (pS1 c42_1)) (fun e=>ifB (e 10) ((D42 m c (pC1 (pS2 (pS1 c42_1))) (D42 m c c42_2 (Z42 m) nx) nx) e) ((D42 m c c42_2 (Z42 m) nx) e)) nx) (by kernel_rfl) ?_
  rw [K42_2_eq m c ]
  kernel_rfl
noncomputable def K42_0 (m:Nat) (c:Qd) (t0 t1:AV):Kt:=
 K42_1 m c t0 t1
theorem K42_0_eq:D42 m c c42_0 (Z42 m) nx = (a2 (K42_0 m c) 0 1):=by
  refine Tq (D42 m c (pS1 c42_0) (D42 m c c42_1 (Z42 m) nx) nx) (by kernel_rfl) ?_
  rw [K42_1_eq m c ]
  kernel_rfl
theorem F42_eq (t0 t1:AV):Qu (C m) c Tryz.f42 [t0,t1] = K42_0 m c t0 t1:=by
  refine Tq ((D42 m c c42_0 (Z42 m) nx) (Xl [t0,t1])) (by kernel_rfl) ?_
  rw [K42_0_eq m c]
  rfl
noncomputable def c16_0:Code:=(Qw Tryz.f16)
noncomputable def Z16 (m:Nat):=fun (e:Nat→AV)=>Qo (C m) (Xh e Tryz.f16.results.toList)
noncomputable def D16 (m:Nat) (c:Qd) (p:Code) (k:TE→Kt) (x:Nat→TE→Kt):=Q2 p (C m) c k x (Z16 m)
noncomputable def K16_0 (m:Nat) (c:Qd) (t0:AV):Kt:=
 bnd (Z2 24 t0) fun v0=>
 bnd (Qh (C m) 24 v0 8) fun v1=>
 bnd (ldO (C m) 3 v1) fun v2=>
 bnd (Qh (C m) 24 v0 9) fun v3=>
 bnd (ldO (C m) 3 v3) fun v4=>
 bnd (Qi (C m) .mul 3 v2 v4) fun v5=>
 bnd (Qi (C m) .leq 3 v5 (I 32)) fun v6=>
 bnd (gdO (Qc v6 true) (Qh (C m) 24 v0 1)) fun v7=>
 bnd (gdO (Qc v6 true) (ldO (C m) 3 v7)) fun v8=>
 bnd (gdO (Qc v6 true) (Qh (C m) 24 v0 2)) fun v9=>
 bnd (gdO (Qc v6 true) (ldO (C m) 3 v9)) fun v10=>
 bnd (gdO (Qc v6 true) (Qi (C m) .mul 3 v8 v10)) fun v11=>
 bnd (gdO (Qc v6 true) (Qi (C m) .leq 3 v11 (I 256))) fun v12=>
 bnd (Qm v6 v12 (B false)) fun v13=>
 bnd (gdO (Qc v13 true) (Qh (C m) 24 v0 4)) fun v14=>
 bnd (gdO (Qc v13 true) (ldO (C m) 3 v14)) fun v15=>
 bnd (gdO (Qc v13 true) (Qh (C m) 24 v0 5)) fun v16=>
 bnd (gdO (Qc v13 true) (ldO (C m) 3 v16)) fun v17=>
 bnd (gdO (Qc v13 true) (Qi (C m) .mul 3 v15 v17)) fun v18=>
 bnd (gdO (Qc v13 true) (Qi (C m) .leq 3 v18 (I 512))) fun v19=>
 bnd (Qm v13 v19 (B false)) fun v20=>
 bnd (gdO (Qc v20 true) (Qh (C m) 24 v0 10)) fun v21=>
 bnd (gdO (Qc v20 true) (ldO (C m) 3 v21)) fun v22=>
 bnd (gdO (Qc v20 true) (Qh (C m) 24 v0 11)) fun v23=>
 bnd (gdO (Qc v20 true) (ldO (C m) 3 v23)) fun v24=>
 bnd (gdO (Qc v20 true) (Qi (C m) .mul 3 v22 v24)) fun v25=>
 bnd (gdO (Qc v20 true) (Qh (C m) 24 v0 12)) fun v26=>
 bnd (gdO (Qc v20 true) (ldO (C m) 3 v26)) fun v27=>
 bnd (gdO (Qc v20 true) (Qi (C m) .mul 3 v25 v27)) fun v28=>
 bnd (gdO (Qc v20 true) (Qi (C m) .leq 3 v28 (I 2048))) fun v29=>
 bnd (Qm v20 v29 (B false)) fun v30=>
 bnd (gdO (Qc v30 true) (Qh (C m) 24 v0 10)) fun v31=>
 bnd (gdO (Qc v30 true) (ldO (C m) 3 v31)) fun v32=>
 bnd (gdO (Qc v30 true) (Qh (C m) 24 v0 13)) fun v33=>
 bnd (gdO (Qc v30 true) (ldO (C m) 3 v33)) fun v34=>
 bnd (gdO (Qc v30 true) (Qi (C m) .mul 3 v32 v34)) fun v35=>
 bnd (gdO (Qc v30 true) (Qi (C m) .leq 3 v35 (I 512))) fun v36=>
 bnd (Qm v30 v36 (B false)) fun v37=>
 bnd (gdO (Qc v37 true) (Qh (C m) 24 v0 14)) fun v38=>
 bnd (gdO (Qc v37 true) (ldO (C m) 3 v38)) fun v39=>
 bnd (gdO (Qc v37 true) (Qh (C m) 24 v0 15)) fun v40=>
 bnd (gdO (Qc v37 true) (ldO (C m) 3 v40)) fun v41=>
 bnd (gdO (Qc v37 true) (Qi (C m) .mul 3 v39 v41)) fun v42=>
 bnd (gdO (Qc v37 true) (Qh (C m) 24 v0 16)) fun v43=>
 bnd (gdO (Qc v37 true) (ldO (C m) 3 v43)) fun v44=>
 bnd (gdO (Qc v37 true) (Qi (C m) .mul 3 v42 v44)) fun v45=>
 bnd (gdO (Qc v37 true) (Qh (C m) 24 v0 17)) fun v46=>
 bnd (gdO (Qc v37 true) (ldO (C m) 3 v46)) fun v47=>
 bnd (gdO (Qc v37 true) (Qi (C m) .mul 3 v45 v47)) fun v48=>
 bnd (gdO (Qc v37 true) (Qi (C m) .leq 3 v48 (I 4096))) fun v49=>
 bnd (Qm v37 v49 (B false)) fun v50=>
 Qo (C m) [(none,v50)]
theorem K16_0_eq:D16 m c c16_0 (Z16 m) nx = (a1 (K16_0 m c) 0):=by
  refine Tq (D16 m c (pS1 c16_0) (D16 m c (pS1 (pS2 c16_0)) (Z16 m) nx) nx) (by kernel_rfl) ?_
  kernel_rfl
theorem F16_eq (t0:AV):Qu (C m) c Tryz.f16 [t0] = K16_0 m c t0:=by
  refine Tq ((D16 m c c16_0 (Z16 m) nx) (Xl [t0])) (by kernel_rfl) ?_
  rw [K16_0_eq m c]
  rfl
noncomputable def c4_0:Code:=(Qw Tryz.f4)
noncomputable def c4_1:Code:=(pS2 c4_0)
noncomputable def c4_2:Code:=(pS2 c4_1)
noncomputable def c4_3:Code:=(pS2 c4_2)
noncomputable def c4_4:Code:=(pS2 c4_3)
noncomputable def c4_5:Code:=(pS2 c4_4)
noncomputable def c4_6:Code:=(pS2 c4_5)
noncomputable def Z4 (m:Nat):=fun (e:Nat→AV)=>Qo (C m) (Xh e Tryz.f4.results.toList)
noncomputable def D4 (m:Nat) (c:Qd) (p:Code) (k:TE→Kt) (x:Nat→TE→Kt):=Q2 p (C m) c k x (Z4 m)
noncomputable def K4_6 (m:Nat) (c:Qd) (t1 t2 t4 t5 t6 t7:AV):Kt:=
 dIn fun sv0=>
 Qk (Qh (C m) 24 t1 0) fun v1=>
 Qr (ldO (C m) 22 v1) fun v2=>
 Xn (Qy (C m) c (fnV 12) [v2,(I 33)]) fun v3 sv3=>
 Qk (Qh (C m) 24 t1 14) fun v4=>
 Ze (some true) (ldO (C m) 3 v4) (fun v5=>(Xk (ldO (C m) 3 v4) v5 sv3 && (Xk (ldO (C m) 3 v4) v5 sv0 && true))) fun v6=>
 Qk (Qh (C m) 24 t1 15) fun v7=>
 Ze (some true) (ldO (C m) 3 v7) (fun v8=>(Xk (ldO (C m) 3 v7) v8 sv3 && (Xk (ldO (C m) 3 v7) v8 sv0 && true))) fun v9=>
 Qk (Qh (C m) 24 t1 16) fun v10=>
 Ze (some true) (ldO (C m) 3 v10) (fun v11=>(Xk (ldO (C m) 3 v10) v11 sv3 && (Xk (ldO (C m) 3 v10) v11 sv0 && true))) fun v12=>
 Qk (Qh (C m) 24 t1 17) fun v13=>
 Ze (some true) (ldO (C m) 3 v13) (fun v14=>(Xk (ldO (C m) 3 v13) v14 sv3 && (Xk (ldO (C m) 3 v13) v14 sv0 && true))) fun v15=>
 Xn (Qy (C m) c (fnV 15) [v3,v6,v9,v12,v15]) fun v16 sv16=>
 Qk (Vz v16 0) fun v17=>
 Qk (Qh (C m) 45 t4 7) fun v18=>
 Xn (stO (C m) 43 v18 v17) fun v19 sv19=>
 Qk (Vz v16 1) fun v20=>
 bnd (Qv (C m) .max [46,46,46,46] [t5,t6,t7,v20]) fun v21=>
 bnd (Qi (C m) .neq 46 v21 (I 0)) fun v22=>
 bnd (gdO (Qc v22 false) (ldO (C m) 24 t1)) fun v23=>
 bnd (gdO (Qc v22 false) (Qy (C m) c (fnV 16) [v23])) fun v24=>
 bnd (gdO (Qc v22 false) (unO .not v24)) fun v25=>
 bnd (Qm v22 (B true) v25) fun v26=>
 ifB v26
 ((bnd (Xp (C m) 45 []) fun v27=>
 bnd (stO (C m) 45 t2 v27) fun _=>
 Qo (C m) [(some 45,t2),(none,(I 1))]))
 ((bnd (ldO (C m) 45 t4) fun v28=>
 bnd (stO (C m) 45 t2 v28) fun _=>
 Qo (C m) [(some 45,t2),(none,(I 0))]))
theorem K4_6_eq:D4 m c c4_6 (Z4 m) nx = (a6 (K4_6 m c) 1 2 4 5 6 7):=by
  refine Tq (D4 m c (pS1 c4_6) (D4 m c (pS1 (pS1 (pS2 c4_6))) (fun e=>ifB (e 88) ((D4 m c (pS1 (pC1 (pS2 (pS1 (pS2 c4_6))))) (Z4 m) nx) e) ((D4 m c (pS1 (pS2 (pS2 c4_6))) (Z4 m) nx) e)) nx) nx) (by kernel_rfl) ?_
  kernel_rfl
noncomputable def K4_5 (m:Nat) (c:Qd) (t1 t2 t4 t5 t6:AV):Kt:=
 dIn fun sv0=>
 Qk (Qh (C m) 24 t1 0) fun v1=>
 Qr (ldO (C m) 22 v1) fun v2=>
 Xn (Qy (C m) c (fnV 12) [v2,(I 32)]) fun v3 sv3=>
 Qk (Qh (C m) 24 t1 10) fun v4=>
 Ze (some true) (ldO (C m) 3 v4) (fun v5=>(Xk (ldO (C m) 3 v4) v5 sv3 && (Xk (ldO (C m) 3 v4) v5 sv0 && true))) fun v6=>
 Qk (Qh (C m) 24 t1 11) fun v7=>
 Ze (some true) (ldO (C m) 3 v7) (fun v8=>(Xk (ldO (C m) 3 v7) v8 sv3 && (Xk (ldO (C m) 3 v7) v8 sv0 && true))) fun v9=>
 Qk (Qh (C m) 24 t1 12) fun v10=>
 Ze (some true) (ldO (C m) 3 v10) (fun v11=>(Xk (ldO (C m) 3 v10) v11 sv3 && (Xk (ldO (C m) 3 v10) v11 sv0 && true))) fun v12=>
 Qk (Qh (C m) 24 t1 13) fun v13=>
 Ze (some true) (ldO (C m) 3 v13) (fun v14=>(Xk (ldO (C m) 3 v13) v14 sv3 && (Xk (ldO (C m) 3 v13) v14 sv0 && true))) fun v15=>
 Xn (Qy (C m) c (fnV 14) [v3,v6,v9,v12,v15]) fun v16 sv16=>
 Qk (Vz v16 0) fun v17=>
 Qk (Qh (C m) 45 t4 6) fun v18=>
 Xn (stO (C m) 40 v18 v17) fun v19 sv19=>
 Qk (Vz v16 1) fun v20=>
 K4_6 m c t1 t2 t4 t5 t6 v20
theorem K4_5_eq:D4 m c c4_5 (Z4 m) nx = (a5 (K4_5 m c) 1 2 4 5 6):=by
  refine Tq (D4 m c (pS1 c4_5) (D4 m c c4_6 (Z4 m) nx) nx) (by kernel_rfl) ?_
  rw [K4_6_eq m c ]
  kernel_rfl
noncomputable def K4_4 (m:Nat) (c:Qd) (t1 t2 t4 t5:AV):Kt:=
 dIn fun sv0=>
 Qk (Qh (C m) 24 t1 0) fun v1=>
 Qr (ldO (C m) 22 v1) fun v2=>
 Xn (Qy (C m) c (fnV 12) [v2,(I 31)]) fun v3 sv3=>
 Qk (Qh (C m) 24 t1 6) fun v4=>
 Ze (some true) (ldO (C m) 3 v4) (fun v5=>(Xk (ldO (C m) 3 v4) v5 sv3 && (Xk (ldO (C m) 3 v4) v5 sv0 && true))) fun v6=>
 Qk (Qh (C m) 24 t1 7) fun v7=>
 Ze (some true) (ldO (C m) 3 v7) (fun v8=>(Xk (ldO (C m) 3 v7) v8 sv3 && (Xk (ldO (C m) 3 v7) v8 sv0 && true))) fun v9=>
 Qk (Qh (C m) 24 t1 8) fun v10=>
 Ze (some true) (ldO (C m) 3 v10) (fun v11=>(Xk (ldO (C m) 3 v10) v11 sv3 && (Xk (ldO (C m) 3 v10) v11 sv0 && true))) fun v12=>
 Qk (Qh (C m) 24 t1 9) fun v13=>
 Ze (some true) (ldO (C m) 3 v13) (fun v14=>(Xk (ldO (C m) 3 v13) v14 sv3 && (Xk (ldO (C m) 3 v13) v14 sv0 && true))) fun v15=>
 Xn (Qy (C m) c (fnV 13) [v3,v6,v9,v12,v15]) fun v16 sv16=>
 Qk (Vz v16 0) fun v17=>
 Qk (Qh (C m) 45 t4 5) fun v18=>
 Xn (stO (C m) 37 v18 v17) fun v19 sv19=>
 Qk (Vz v16 1) fun v20=>
 K4_5 m c t1 t2 t4 t5 v20
theorem K4_4_eq:D4 m c c4_4 (Z4 m) nx = (a4 (K4_4 m c) 1 2 4 5):=by
  refine Tq (D4 m c (pS1 c4_4) (D4 m c c4_5 (Z4 m) nx) nx) (by kernel_rfl) ?_
  rw [K4_5_eq m c ]
  kernel_rfl
noncomputable def K4_3 (m:Nat) (c:Qd) (t1 t2 t4:AV):Kt:=
 dIn fun sv0=>
 Qk (Qh (C m) 24 t1 0) fun v1=>
 Qr (ldO (C m) 22 v1) fun v2=>
 Xn (Qy (C m) c (fnV 12) [v2,(I 30)]) fun v3 sv3=>
 Qk (Qh (C m) 24 t1 1) fun v4=>
 Ze (some true) (ldO (C m) 3 v4) (fun v5=>(Xk (ldO (C m) 3 v4) v5 sv3 && (Xk (ldO (C m) 3 v4) v5 sv0 && true))) fun v6=>
 Qk (Qh (C m) 24 t1 2) fun v7=>
 Ze (some true) (ldO (C m) 3 v7) (fun v8=>(Xk (ldO (C m) 3 v7) v8 sv3 && (Xk (ldO (C m) 3 v7) v8 sv0 && true))) fun v9=>
 Qk (Qh (C m) 24 t1 3) fun v10=>
 Ze (some true) (ldO (C m) 3 v10) (fun v11=>(Xk (ldO (C m) 3 v10) v11 sv3 && (Xk (ldO (C m) 3 v10) v11 sv0 && true))) fun v12=>
 Qk (Qh (C m) 24 t1 4) fun v13=>
 Ze (some true) (ldO (C m) 3 v13) (fun v14=>(Xk (ldO (C m) 3 v13) v14 sv3 && (Xk (ldO (C m) 3 v13) v14 sv0 && true))) fun v15=>
 Qk (Qh (C m) 24 t1 5) fun v16=>
 Ze (some true) (ldO (C m) 3 v16) (fun v17=>(Xk (ldO (C m) 3 v16) v17 sv3 && (Xk (ldO (C m) 3 v16) v17 sv0 && true))) fun v18=>
 Xn (Qy (C m) c (fnV 11) [v3,v6,v9,v12,v15,v18]) fun v19 sv19=>
 Qk (Vz v19 0) fun v20=>
 Qk (Qh (C m) 45 t4 4) fun v21=>
 Xn (stO (C m) 31 v21 v20) fun v22 sv22=>
 Qk (Vz v19 1) fun v23=>
 K4_4 m c t1 t2 t4 v23
theorem K4_3_eq:D4 m c c4_3 (Z4 m) nx = (a3 (K4_3 m c) 1 2 4):=by
  refine Tq (D4 m c (pS1 c4_3) (D4 m c c4_4 (Z4 m) nx) nx) (by kernel_rfl) ?_
  rw [K4_4_eq m c ]
  kernel_rfl
noncomputable def K4_2 (m:Nat) (c:Qd) (t1 t2 t4:AV):Kt:=
 K4_3 m c t1 t2 t4
theorem K4_2_eq:D4 m c c4_2 (Z4 m) nx = (a3 (K4_2 m c) 1 2 4):=by
  refine Tq (D4 m c (pS1 c4_2) (D4 m c c4_3 (Z4 m) nx) nx) (by kernel_rfl) ?_
  rw [K4_3_eq m c ]
  kernel_rfl
noncomputable def K4_1 (m:Nat) (c:Qd) (t1 t2:AV):Kt:=
 atN 5 fun v0=>
 dIn fun sv0=>
 Qr (ldO (C m) 24 t1) fun v1=>
 Vw (mksO (C m) 25 (I 18) (I 18)) (Nat.add v0 1) fun v2=>
 Qk (Xp (C m) 45 [(0,v1),(3,v2)]) fun v3=>
 Vw (Xe (C m) 45) (Nat.add v0 3) fun v4=>
 Xn (stO (C m) 45 v4 v3) fun v5 sv5=>
 K4_2 m c t1 t2 v4
theorem K4_1_eq:D4 m c c4_1 (Z4 m) nx = (a2 (K4_1 m c) 1 2):=by
  refine Tq (D4 m c (pS1 c4_1) (D4 m c c4_2 (Z4 m) nx) nx) (by kernel_rfl) ?_
  rw [K4_2_eq m c ]
  kernel_rfl
noncomputable def K4_0 (m:Nat) (c:Qd) (t0:AV):Kt:=
 bnd (Z2 24 t0) fun v0=>
 bnd (Xe (C m) 45) fun v1=>
 K4_1 m c v0 v1
theorem K4_0_eq:D4 m c c4_0 (Z4 m) nx = (a1 (K4_0 m c) 0):=by
  refine Tq (D4 m c (pS1 c4_0) (D4 m c c4_1 (Z4 m) nx) nx) (by kernel_rfl) ?_
  rw [K4_1_eq m c ]
  kernel_rfl
theorem F4_eq (t0:AV):Qu (C m) c Tryz.f4 [t0] = K4_0 m c t0:=by
  refine Tq ((D4 m c c4_0 (Z4 m) nx) (Xl [t0])) (by kernel_rfl) ?_
  rw [K4_0_eq m c]
  rfl
end Go.Proofs.YtjfgdcegpgoobaaGreatDoor
