/- Functions of the program as plain functions over the interpreter's words, and the theorems that they are what the interpreter makes of the code. -/
import Derived.Test.YtjfgdcegpgoobaaGreatDoorCx
set_option linter.unusedVariables false
namespace Go.Proofs.YtjfgdcegpgoobaaGreatDoor
open Go.Run
set_option maxRecDepth 100000
open Go
variable (m:Nat) (c:Qd)
noncomputable def c10_0:Code:=(Qw Tryz.f10)
noncomputable def c10_1:Code:=(pS2 c10_0)
noncomputable def c10_2:Code:=(pS2 c10_1)
noncomputable def c10_3:Code:=(pS2 c10_2)
noncomputable def c10_4:Code:=(pS2 c10_3)
noncomputable def c10_5:Code:=(pS2 c10_4)
noncomputable def c10_6:Code:=(pS2 c10_5)
noncomputable def c10_7:Code:=(pS2 c10_6)
noncomputable def c10_8:Code:=(pS2 c10_7)
noncomputable def c10_9:Code:=(pS2 c10_8)
noncomputable def c10_10:Code:=(pS2 c10_9)
noncomputable def c10_11:Code:=(pS2 c10_10)
noncomputable def c10_12:Code:=(pS2 (pS1 c10_10))
noncomputable def c10_13:Code:=(pL (pB c10_12))
noncomputable def c10_14:Code:=(pS2 c10_13)
noncomputable def c10_15:Code:=(pS2 c10_14)
noncomputable def c10_16:Code:=(pS2 (pS1 c10_7))
noncomputable def c10_17:Code:=(pL (pB c10_16))
noncomputable def c10_18:Code:=(pS2 c10_17)
noncomputable def c10_19:Code:=(pS2 c10_18)
noncomputable def c10_20:Code:=(pS2 (pB (pS1 c10_18)))
noncomputable def c10_21:Code:=(pS2 c10_20)
noncomputable def c10_22:Code:=(pS2 (pS1 c10_20))
noncomputable def c10_23:Code:=(pL (pB c10_22))
noncomputable def c10_24:Code:=(pS2 c10_23)
noncomputable def c10_25:Code:=(pS2 c10_24)
noncomputable def Z10 (m:Nat):=fun (e:Nat→AV)=>Qo (C m) (Xh e Tryz.f10.results.toList)
noncomputable def D10 (m:Nat) (c:Qd) (p:Code) (k:TE→Kt) (x:Nat→TE→Kt):=Q2 p (C m) c k x (Z10 m)
noncomputable def Vx (m:Nat) (c:Qd) (t1 t2 t3:AV):Kt:=
 dIn fun sv0=>
 Qk (Qh (C m) 24 t1 0) fun v1=>
 Qr (ldO (C m) 22 v1) fun v2=>
 Xn (Qy (C m) c (fnV 31) [v2,(I 33)]) fun v3 sv3=>
 Ze (some true) (ldO (C m) 24 t1) (fun v4=>(Xk (ldO (C m) 24 t1) v4 sv3 && (Xk (ldO (C m) 24 t1) v4 sv0 && true))) fun v5=>
 Xn (Qy (C m) c (fnV 34) [v3,v5]) fun v6 sv6=>
 Qk (Qh (C m) 66 t3 7) fun v7=>
 Xn (stO (C m) 64 v7 v6) fun v8 sv8=>
 bnd (ldO (C m) 66 t3) fun v9=>
 bnd (stO (C m) 66 t2 v9) fun _=>
 Qo (C m) [(some 66,t2)]
theorem K10_11_eq:D10 m c c10_11 (Z10 m) nx = (a3 (Vx m c) 1 2 3):=by
  refine Tq (D10 m c (pS1 c10_11) (D10 m c (pS1 (pS2 c10_11)) (Z10 m) nx) nx) (by kernel_rfl) ?_
  kernel_rfl
noncomputable def K10_15 (m:Nat) (c:Qd) (h13:AV→AV→AV→AV→AV→Kt) (t1 t2 t3 t4 t8:AV):Kt:=
 bnd (Qi (C m) .add 3 t8 (I 1)) fun v0=>
 h13 t1 t2 t3 t4 v0
theorem K10_15_eq (h13:AV→AV→AV→AV→AV→Kt):D10 m c c10_15 (a5 h13 1 2 3 4 8) (Qa 4 (a3 (Vx m c) 1 2 3) nx) = (a5 (K10_15 m c h13) 1 2 3 4 8):=by
  kernel_rfl
noncomputable def K10_14 (m:Nat) (c:Qd) (h13:AV→AV→AV→AV→AV→Kt) (t1 t2 t3 t4 t8:AV):Kt:=
 atN 12 fun v0=>
 dIn fun sv0=>
 Qk (Qi (C m) .add 3 t8 (I 1)) fun v1=>
 Xn (Qy (C m) c (fnV 31) [t4,v1]) fun v2 sv2=>
 Qk (Qh (C m) 24 t1 11) fun v3=>
 Ze (some true) (ldO (C m) 3 v3) (fun v4=>(Xk (ldO (C m) 3 v3) v4 sv2 && (Xk (ldO (C m) 3 v3) v4 sv0 && true))) fun v5=>
 Qk (Qh (C m) 24 t1 12) fun v6=>
 Ze (some true) (ldO (C m) 3 v6) (fun v7=>(Xk (ldO (C m) 3 v6) v7 sv2 && (Xk (ldO (C m) 3 v6) v7 sv0 && true))) fun v8=>
 Xn (Qy (C m) c (fnV 32) [v5,v8]) fun v9 sv9=>
 Qk (Xp (C m) 104 [(0,v2),(1,v9)]) fun v10=>
 Vw (Xe (C m) 104) (Nat.add v0 10) fun v11=>
 Xn (stO (C m) 104 v11 v10) fun v12 sv12=>
 bnd (Qh (C m) 66 t3 6) fun v13=>
 bnd (Qh (C m) 61 v13 2) fun v14=>
 bnd (ldO (C m) 59 v14) fun v15=>
 bnd (ldO (C m) 104 v11) fun v16=>
 bnd (Xp (C m) 107 [(0,v16)]) fun v17=>
 bnd (Vi (C m) 59 1 [(0,v17)]) fun v18=>
 bnd (Qv (C m) .append [59,59] [v15,v18]) fun v19=>
 bnd (Qh (C m) 66 t3 6) fun v20=>
 bnd (Qh (C m) 61 v20 2) fun v21=>
 bnd (stO (C m) 59 v21 v19) fun _=>
 K10_15 m c h13 t1 t2 t3 t4 t8
theorem K10_14_eq (h13:AV→AV→AV→AV→AV→Kt):D10 m c c10_14 (a5 h13 1 2 3 4 8) (Qa 4 (a3 (Vx m c) 1 2 3) nx) = (a5 (K10_14 m c h13) 1 2 3 4 8):=by
  refine Tq (D10 m c (pS1 (pB (pS1 c10_14))) (D10 m c (pS2 (pB (pS1 c10_14))) (D10 m c c10_15 (a5 h13 1 2 3 4 8) (Qa 4 (a3 (Vx m c) 1 2 3) nx)) (Qa 5 (D10 m c c10_15 (a5 h13 1 2 3 4 8) (Qa 4 (a3 (Vx m c) 1 2 3) nx)) (Qa 4 (a3 (Vx m c) 1 2 3) nx))) (Qa 5 (D10 m c c10_15 (a5 h13 1 2 3 4 8) (Qa 4 (a3 (Vx m c) 1 2 3) nx)) (Qa 4 (a3 (Vx m c) 1 2 3) nx))) (by kernel_rfl) ?_
  rw [K10_15_eq m c h13 ]
  kernel_rfl
noncomputable def L10_13_b (m:Nat) (c:Qd) (h13:AV→AV→AV→AV→AV→Kt) (t1 t2 t3 t4 t8:AV):Kt:=
 bnd (Qh (C m) 24 t1 10) fun v0=>
 bnd (ldO (C m) 3 v0) fun v1=>
 bnd (Qi (C m) .lss 3 t8 v1) fun v2=>
 ifB v2
 ((K10_14 m c h13 t1 t2 t3 t4 t8))
 ((Vx m c t1 t2 t3))
noncomputable def L10_13 (m:Nat) (c:Qd) (n:Nat):AV→AV→AV→AV→AV→Kt:=
 Nat.rec (motive:=fun _=>AV→AV→AV→AV→AV→Kt) (fun t1 t2 t3 t4 t8=>noK) (fun _ ih=>L10_13_b m c ih) n
theorem L10_13_b_eq (h13:AV→AV→AV→AV→AV→Kt):D10 m c c10_13 (a5 h13 1 2 3 4 8) (Qa 4 (a3 (Vx m c) 1 2 3) nx) = fun e=>L10_13_b m c h13 (e 1) (e 2) (e 3) (e 4) (e 8):=by
  refine Tq (D10 m c (pS1 (pS1 c10_13)) (fun e=>ifB (e 86) ((D10 m c c10_14 (a5 h13 1 2 3 4 8) (Qa 4 (a3 (Vx m c) 1 2 3) nx)) e) ((a3 (Vx m c) 1 2 3) e)) (Qa 4 (a3 (Vx m c) 1 2 3) nx)) (by kernel_rfl) ?_
  rw [K10_14_eq m c h13 ]
  kernel_rfl
theorem L10_13_eq (n:Nat):(Qn (fun k=>D10 m c c10_13 k (Qa 4 (a3 (Vx m c) 1 2 3) nx)) n) = (a5 (L10_13 m c n) 1 2 3 4 8):=by
  induction n with
  | zero=>rfl
  | succ n ih=>
    show D10 m c c10_13 (Qn (fun k=>D10 m c c10_13 k (Qa 4 (a3 (Vx m c) 1 2 3) nx)) n) (Qa 4 (a3 (Vx m c) 1 2 3) nx) = _
    rw [ih,L10_13_b_eq m c (L10_13 m c n)]
    rfl
theorem L10_13_succ (n:Nat):L10_13 m c (n + 1) = L10_13_b m c (L10_13 m c n):=rfl
noncomputable def K10_12 (m:Nat) (c:Qd) (t1 t2 t3 t4 t8:AV):Kt:=
 L10_13 m c m t1 t2 t3 t4 t8
theorem K10_12_eq:D10 m c c10_12 (a3 (Vx m c) 1 2 3) nx = (a5 (K10_12 m c) 1 2 3 4 8):=by
  refine Tq (Qn (fun k=>D10 m c c10_13 k (Qa 4 (a3 (Vx m c) 1 2 3) nx)) m) (by kernel_rfl) ?_
  rw [L10_13_eq m c m]
  kernel_rfl
noncomputable def K10_10 (m:Nat) (c:Qd) (t1 t2 t3 t4:AV):Kt:=
 K10_12 m c t1 t2 t3 t4 (I 0)
theorem K10_10_eq:D10 m c c10_10 (Z10 m) nx = (a4 (K10_10 m c) 1 2 3 4):=by
  refine Tq (D10 m c (pS1 (pS1 c10_10)) (D10 m c c10_12 (D10 m c c10_11 (Z10 m) nx) nx) nx) (by kernel_rfl) ?_
  rw [K10_11_eq m c ,K10_12_eq m c ]
  kernel_rfl
noncomputable def K10_9 (m:Nat) (c:Qd) (t1 t2 t3 t4:AV):Kt:=
 bnd (Qh (C m) 24 t1 13) fun v0=>
 bnd (ldO (C m) 3 v0) fun v1=>
 bnd (Xp (C m) 61 [(0,t4),(1,v1)]) fun v2=>
 bnd (Qh (C m) 66 t3 6) fun v3=>
 bnd (stO (C m) 61 v3 v2) fun _=>
 K10_10 m c t1 t2 t3 t4
theorem K10_9_eq:D10 m c c10_9 (Z10 m) nx = (a4 (K10_9 m c) 1 2 3 4):=by
  refine Tq (D10 m c (pS1 c10_9) (D10 m c c10_10 (Z10 m) nx) nx) (by kernel_rfl) ?_
  rw [K10_10_eq m c ]
  kernel_rfl
noncomputable def Yz (m:Nat) (c:Qd) (t1 t2 t3:AV):Kt:=
 bnd (Qh (C m) 24 t1 0) fun v0=>
 bnd (ldO (C m) 22 v0) fun v1=>
 bnd (Qy (C m) c (fnV 31) [v1,(I 32)]) fun v2=>
 K10_9 m c t1 t2 t3 v2
theorem K10_8_eq:D10 m c c10_8 (Z10 m) nx = (a3 (Yz m c) 1 2 3):=by
  refine Tq (D10 m c (pS1 c10_8) (D10 m c c10_9 (Z10 m) nx) nx) (by kernel_rfl) ?_
  rw [K10_9_eq m c ]
  kernel_rfl
noncomputable def Zg (m:Nat) (c:Qd) (h17:AV→AV→AV→AV→Kt) (t1 t2 t3 t5:AV):Kt:=
 bnd (Qi (C m) .add 3 t5 (I 1)) fun v0=>
 h17 t1 t2 t3 v0
theorem K10_19_eq (h17:AV→AV→AV→AV→Kt):D10 m c c10_19 (a4 h17 1 2 3 5) (Qa 0 (a3 (Yz m c) 1 2 3) nx) = (a4 (Zg m c h17) 1 2 3 5):=by
  kernel_rfl
noncomputable def Wl (m:Nat) (c:Qd) (h17:AV→AV→AV→AV→Kt) (t1 t2 t3 t5 t6:AV):Kt:=
 bnd (Qh (C m) 66 t3 5) fun v0=>
 bnd (Qh (C m) 58 v0 2) fun v1=>
 bnd (ldO (C m) 56 v1) fun v2=>
 bnd (Vi (C m) 56 1 [(0,t6)]) fun v3=>
 bnd (Qv (C m) .append [56,56] [v2,v3]) fun v4=>
 bnd (Qh (C m) 66 t3 5) fun v5=>
 bnd (Qh (C m) 58 v5 2) fun v6=>
 bnd (stO (C m) 56 v6 v4) fun _=>
 Zg m c h17 t1 t2 t3 t5
theorem K10_21_eq (h17:AV→AV→AV→AV→Kt):D10 m c c10_21 (a4 (Zg m c h17) 1 2 3 5) (Qa 1 (a4 (Zg m c h17) 1 2 3 5) (Qa 0 (a3 (Yz m c) 1 2 3) nx)) = (a5 (Wl m c h17) 1 2 3 5 6):=by
  kernel_rfl
noncomputable def K10_25 (m:Nat) (c:Qd) (h17:AV→AV→AV→AV→Kt) (h23:AV→AV→AV→AV→AV→AV→Kt) (t1 t2 t3 t5 t6 t7:AV):Kt:=
 bnd (Qi (C m) .add 3 t7 (I 1)) fun v0=>
 h23 t1 t2 t3 t5 t6 v0
theorem K10_25_eq (h17:AV→AV→AV→AV→Kt) (h23:AV→AV→AV→AV→AV→AV→Kt):D10 m c c10_25 (a6 h23 1 2 3 5 6 7) (Qa 2 (a5 (Wl m c h17) 1 2 3 5 6) (Qa 1 (a4 (Zg m c h17) 1 2 3 5) (Qa 0 (a3 (Yz m c) 1 2 3) nx))) = (a6 (K10_25 m c h17 h23) 1 2 3 5 6 7):=by
  kernel_rfl
noncomputable def K10_24 (m:Nat) (c:Qd) (h17:AV→AV→AV→AV→Kt) (h23:AV→AV→AV→AV→AV→AV→Kt) (t1 t2 t3 t5 t6 t7:AV):Kt:=
 bnd (mksO (C m) 130 (I 37) (I 37)) fun v0=>
 bnd (cvO (C m) 130 9 v0) fun v1=>
 bnd (Xp (C m) 98 [(0,v1)]) fun v2=>
 bnd (Vi (C m) 95 1 [(0,v2)]) fun v3=>
 bnd (Qv (C m) .append [95,95] [t6,v3]) fun v4=>
 K10_25 m c h17 h23 t1 t2 t3 t5 v4 t7
theorem K10_24_eq (h17:AV→AV→AV→AV→Kt) (h23:AV→AV→AV→AV→AV→AV→Kt):D10 m c c10_24 (a6 h23 1 2 3 5 6 7) (Qa 2 (a5 (Wl m c h17) 1 2 3 5 6) (Qa 1 (a4 (Zg m c h17) 1 2 3 5) (Qa 0 (a3 (Yz m c) 1 2 3) nx))) = (a6 (K10_24 m c h17 h23) 1 2 3 5 6 7):=by
  refine Tq (D10 m c (pB (pS1 c10_24)) (D10 m c c10_25 (a6 h23 1 2 3 5 6 7) (Qa 2 (a5 (Wl m c h17) 1 2 3 5 6) (Qa 1 (a4 (Zg m c h17) 1 2 3 5) (Qa 0 (a3 (Yz m c) 1 2 3) nx)))) (Qa 3 (D10 m c c10_25 (a6 h23 1 2 3 5 6 7) (Qa 2 (a5 (Wl m c h17) 1 2 3 5 6) (Qa 1 (a4 (Zg m c h17) 1 2 3 5) (Qa 0 (a3 (Yz m c) 1 2 3) nx)))) (Qa 2 (a5 (Wl m c h17) 1 2 3 5 6) (Qa 1 (a4 (Zg m c h17) 1 2 3 5) (Qa 0 (a3 (Yz m c) 1 2 3) nx))))) (by kernel_rfl) ?_
  rw [K10_25_eq m c h17 h23 ]
  kernel_rfl
noncomputable def L10_23_b (m:Nat) (c:Qd) (h17:AV→AV→AV→AV→Kt) (h23:AV→AV→AV→AV→AV→AV→Kt) (t1 t2 t3 t5 t6 t7:AV):Kt:=
 bnd (Qh (C m) 24 t1 9) fun v0=>
 bnd (ldO (C m) 3 v0) fun v1=>
 bnd (Qi (C m) .lss 3 t7 v1) fun v2=>
 ifB v2
 ((K10_24 m c h17 h23 t1 t2 t3 t5 t6 t7))
 ((Wl m c h17 t1 t2 t3 t5 t6))
noncomputable def L10_23 (m:Nat) (c:Qd) (h17:AV→AV→AV→AV→Kt) (n:Nat):AV→AV→AV→AV→AV→AV→Kt:=
 Nat.rec (motive:=fun _=>AV→AV→AV→AV→AV→AV→Kt) (fun t1 t2 t3 t5 t6 t7=>noK) (fun _ ih=>L10_23_b m c h17 ih) n
theorem L10_23_b_eq (h17:AV→AV→AV→AV→Kt) (h23:AV→AV→AV→AV→AV→AV→Kt):D10 m c c10_23 (a6 h23 1 2 3 5 6 7) (Qa 2 (a5 (Wl m c h17) 1 2 3 5 6) (Qa 1 (a4 (Zg m c h17) 1 2 3 5) (Qa 0 (a3 (Yz m c) 1 2 3) nx))) = fun e=>L10_23_b m c h17 h23 (e 1) (e 2) (e 3) (e 5) (e 6) (e 7):=by
  refine Tq (D10 m c (pS1 (pS1 c10_23)) (fun e=>ifB (e 58) ((D10 m c c10_24 (a6 h23 1 2 3 5 6 7) (Qa 2 (a5 (Wl m c h17) 1 2 3 5 6) (Qa 1 (a4 (Zg m c h17) 1 2 3 5) (Qa 0 (a3 (Yz m c) 1 2 3) nx)))) e) ((a5 (Wl m c h17) 1 2 3 5 6) e)) (Qa 2 (a5 (Wl m c h17) 1 2 3 5 6) (Qa 1 (a4 (Zg m c h17) 1 2 3 5) (Qa 0 (a3 (Yz m c) 1 2 3) nx)))) (by kernel_rfl) ?_
  rw [K10_24_eq m c h17 h23 ]
  kernel_rfl
theorem L10_23_eq (h17:AV→AV→AV→AV→Kt) (n:Nat):(Qn (fun k=>D10 m c c10_23 k (Qa 2 (a5 (Wl m c h17) 1 2 3 5 6) (Qa 1 (a4 (Zg m c h17) 1 2 3 5) (Qa 0 (a3 (Yz m c) 1 2 3) nx)))) n) = (a6 (L10_23 m c h17 n) 1 2 3 5 6 7):=by
  induction n with
  | zero=>rfl
  | succ n ih=>
    show D10 m c c10_23 (Qn (fun k=>D10 m c c10_23 k (Qa 2 (a5 (Wl m c h17) 1 2 3 5 6) (Qa 1 (a4 (Zg m c h17) 1 2 3 5) (Qa 0 (a3 (Yz m c) 1 2 3) nx)))) n) (Qa 2 (a5 (Wl m c h17) 1 2 3 5 6) (Qa 1 (a4 (Zg m c h17) 1 2 3 5) (Qa 0 (a3 (Yz m c) 1 2 3) nx))) = _
    rw [ih,L10_23_b_eq m c h17 (L10_23 m c h17 n)]
    rfl
theorem L10_23_succ (h17:AV→AV→AV→AV→Kt) (n:Nat):L10_23 m c h17 (n + 1) = L10_23_b m c h17 (L10_23 m c h17 n):=rfl
noncomputable def K10_22 (m:Nat) (c:Qd) (h17:AV→AV→AV→AV→Kt) (t1 t2 t3 t5 t6 t7:AV):Kt:=
 L10_23 m c h17 m t1 t2 t3 t5 t6 t7
theorem K10_22_eq (h17:AV→AV→AV→AV→Kt):D10 m c c10_22 (a5 (Wl m c h17) 1 2 3 5 6) (Qa 1 (a4 (Zg m c h17) 1 2 3 5) (Qa 0 (a3 (Yz m c) 1 2 3) nx)) = (a6 (K10_22 m c h17) 1 2 3 5 6 7):=by
  refine Tq (Qn (fun k=>D10 m c c10_23 k (Qa 2 (a5 (Wl m c h17) 1 2 3 5 6) (Qa 1 (a4 (Zg m c h17) 1 2 3 5) (Qa 0 (a3 (Yz m c) 1 2 3) nx)))) m) (by kernel_rfl) ?_
  rw [L10_23_eq m c h17 m]
  kernel_rfl
noncomputable def K10_20 (m:Nat) (c:Qd) (h17:AV→AV→AV→AV→Kt) (t1 t2 t3 t5 t6:AV):Kt:=
 K10_22 m c h17 t1 t2 t3 t5 t6 (I 0)
theorem K10_20_eq (h17:AV→AV→AV→AV→Kt):D10 m c c10_20 (a4 (Zg m c h17) 1 2 3 5) (Qa 1 (a4 (Zg m c h17) 1 2 3 5) (Qa 0 (a3 (Yz m c) 1 2 3) nx)) = (a5 (K10_20 m c h17) 1 2 3 5 6):=by
  refine Tq (D10 m c (pS1 (pS1 c10_20)) (D10 m c c10_22 (D10 m c c10_21 (a4 (Zg m c h17) 1 2 3 5) (Qa 1 (a4 (Zg m c h17) 1 2 3 5) (Qa 0 (a3 (Yz m c) 1 2 3) nx))) (Qa 1 (a4 (Zg m c h17) 1 2 3 5) (Qa 0 (a3 (Yz m c) 1 2 3) nx))) (Qa 1 (a4 (Zg m c h17) 1 2 3 5) (Qa 0 (a3 (Yz m c) 1 2 3) nx))) (by kernel_rfl) ?_
  rw [K10_21_eq m c h17 ,K10_22_eq m c h17 ]
  kernel_rfl
noncomputable def K10_18 (m:Nat) (c:Qd) (h17:AV→AV→AV→AV→Kt) (t1 t2 t3 t5:AV):Kt:=
 K10_20 m c h17 t1 t2 t3 t5 NS
theorem K10_18_eq (h17:AV→AV→AV→AV→Kt):D10 m c c10_18 (a4 h17 1 2 3 5) (Qa 0 (a3 (Yz m c) 1 2 3) nx) = (a4 (K10_18 m c h17) 1 2 3 5):=by
  refine Tq (D10 m c (pS1 (pB (pS1 c10_18))) (D10 m c c10_20 (D10 m c c10_19 (a4 h17 1 2 3 5) (Qa 0 (a3 (Yz m c) 1 2 3) nx)) (Qa 1 (D10 m c c10_19 (a4 h17 1 2 3 5) (Qa 0 (a3 (Yz m c) 1 2 3) nx)) (Qa 0 (a3 (Yz m c) 1 2 3) nx))) (Qa 1 (D10 m c c10_19 (a4 h17 1 2 3 5) (Qa 0 (a3 (Yz m c) 1 2 3) nx)) (Qa 0 (a3 (Yz m c) 1 2 3) nx))) (by kernel_rfl) ?_
  rw [K10_19_eq m c h17 ,K10_20_eq m c h17 ]
  kernel_rfl
noncomputable def L10_17_b (m:Nat) (c:Qd) (h17:AV→AV→AV→AV→Kt) (t1 t2 t3 t5:AV):Kt:=
 bnd (Qh (C m) 24 t1 8) fun v0=>
 bnd (ldO (C m) 3 v0) fun v1=>
 bnd (Qi (C m) .lss 3 t5 v1) fun v2=>
 ifB v2
 ((K10_18 m c h17 t1 t2 t3 t5))
 ((Yz m c t1 t2 t3))
noncomputable def L10_17 (m:Nat) (c:Qd) (n:Nat):AV→AV→AV→AV→Kt:=
 Nat.rec (motive:=fun _=>AV→AV→AV→AV→Kt) (fun t1 t2 t3 t5=>noK) (fun _ ih=>L10_17_b m c ih) n
theorem L10_17_b_eq (h17:AV→AV→AV→AV→Kt):D10 m c c10_17 (a4 h17 1 2 3 5) (Qa 0 (a3 (Yz m c) 1 2 3) nx) = fun e=>L10_17_b m c h17 (e 1) (e 2) (e 3) (e 5):=by
  refine Tq (D10 m c (pS1 (pS1 c10_17)) (fun e=>ifB (e 52) ((D10 m c c10_18 (a4 h17 1 2 3 5) (Qa 0 (a3 (Yz m c) 1 2 3) nx)) e) ((a3 (Yz m c) 1 2 3) e)) (Qa 0 (a3 (Yz m c) 1 2 3) nx)) (by kernel_rfl) ?_
  rw [K10_18_eq m c h17 ]
  kernel_rfl
theorem L10_17_eq (n:Nat):(Qn (fun k=>D10 m c c10_17 k (Qa 0 (a3 (Yz m c) 1 2 3) nx)) n) = (a4 (L10_17 m c n) 1 2 3 5):=by
  induction n with
  | zero=>rfl
  | succ n ih=>
    show D10 m c c10_17 (Qn (fun k=>D10 m c c10_17 k (Qa 0 (a3 (Yz m c) 1 2 3) nx)) n) (Qa 0 (a3 (Yz m c) 1 2 3) nx) = _
    rw [ih,L10_17_b_eq m c (L10_17 m c n)]
    rfl
theorem L10_17_succ (n:Nat):L10_17 m c (n + 1) = L10_17_b m c (L10_17 m c n):=rfl
noncomputable def K10_16 (m:Nat) (c:Qd) (t1 t2 t3 t5:AV):Kt:=
 L10_17 m c m t1 t2 t3 t5
theorem K10_16_eq:D10 m c c10_16 (a3 (Yz m c) 1 2 3) nx = (a4 (K10_16 m c) 1 2 3 5):=by
  refine Tq (Qn (fun k=>D10 m c c10_17 k (Qa 0 (a3 (Yz m c) 1 2 3) nx)) m) (by kernel_rfl) ?_
  rw [L10_17_eq m c m]
  kernel_rfl
noncomputable def K10_7 (m:Nat) (c:Qd) (t1 t2 t3:AV):Kt:=
 K10_16 m c t1 t2 t3 (I 0)
theorem K10_7_eq:D10 m c c10_7 (Z10 m) nx = (a3 (K10_7 m c) 1 2 3):=by
  refine Tq (D10 m c (pS1 (pS1 c10_7)) (D10 m c c10_16 (D10 m c c10_8 (Z10 m) nx) nx) nx) (by kernel_rfl) ?_
  rw [K10_8_eq m c ,K10_16_eq m c ]
  kernel_rfl
noncomputable def K10_6 (m:Nat) (c:Qd) (t1 t2 t3 t4:AV):Kt:=
 dIn fun sv0=>
 Xn (Qy (C m) c (fnV 31) [t4,(I 0)]) fun v1 sv1=>
 Qk (Qh (C m) 24 t1 6) fun v2=>
 Ze (some true) (ldO (C m) 3 v2) (fun v3=>(Xk (ldO (C m) 3 v2) v3 sv1 && (Xk (ldO (C m) 3 v2) v3 sv0 && true))) fun v4=>
 Qk (Qh (C m) 24 t1 7) fun v5=>
 Ze (some true) (ldO (C m) 3 v5) (fun v6=>(Xk (ldO (C m) 3 v5) v6 sv1 && (Xk (ldO (C m) 3 v5) v6 sv0 && true))) fun v7=>
 Xn (Qy (C m) c (fnV 33) [v1,v4,v7]) fun v8 sv8=>
 Qk (Xp (C m) 58 [(0,t4),(1,v8)]) fun v9=>
 Qk (Qh (C m) 66 t3 5) fun v10=>
 Xn (stO (C m) 58 v10 v9) fun v11 sv11=>
 K10_7 m c t1 t2 t3
theorem K10_6_eq:D10 m c c10_6 (Z10 m) nx = (a4 (K10_6 m c) 1 2 3 4):=by
  refine Tq (D10 m c (pS1 c10_6) (D10 m c c10_7 (Z10 m) nx) nx) (by kernel_rfl) ?_
  rw [K10_7_eq m c ]
  kernel_rfl
noncomputable def K10_5 (m:Nat) (c:Qd) (t1 t2 t3:AV):Kt:=
 bnd (Qh (C m) 24 t1 0) fun v0=>
 bnd (ldO (C m) 22 v0) fun v1=>
 bnd (Qy (C m) c (fnV 31) [v1,(I 31)]) fun v2=>
 K10_6 m c t1 t2 t3 v2
theorem K10_5_eq:D10 m c c10_5 (Z10 m) nx = (a3 (K10_5 m c) 1 2 3):=by
  refine Tq (D10 m c (pS1 c10_5) (D10 m c c10_6 (Z10 m) nx) nx) (by kernel_rfl) ?_
  rw [K10_6_eq m c ]
  kernel_rfl
noncomputable def K10_4 (m:Nat) (c:Qd) (t1 t2 t3 t4:AV):Kt:=
 dIn fun sv0=>
 Xn (Qy (C m) c (fnV 31) [t4,(I 1)]) fun v1 sv1=>
 Qk (Qh (C m) 24 t1 4) fun v2=>
 Ze (some true) (ldO (C m) 3 v2) (fun v3=>(Xk (ldO (C m) 3 v2) v3 sv1 && (Xk (ldO (C m) 3 v2) v3 sv0 && true))) fun v4=>
 Qk (Qh (C m) 24 t1 5) fun v5=>
 Ze (some true) (ldO (C m) 3 v5) (fun v6=>(Xk (ldO (C m) 3 v5) v6 sv1 && (Xk (ldO (C m) 3 v5) v6 sv0 && true))) fun v7=>
 Xn (Qy (C m) c (fnV 32) [v4,v7]) fun v8 sv8=>
 Qk (Xp (C m) 52 [(0,v1),(1,(I 255)),(2,v8)]) fun v9=>
 Qk (Qh (C m) 66 t3 4) fun v10=>
 Qk (Qh (C m) 54 v10 4) fun v11=>
 Xn (stO (C m) 52 v11 v9) fun v12 sv12=>
 K10_5 m c t1 t2 t3
theorem K10_4_eq:D10 m c c10_4 (Z10 m) nx = (a4 (K10_4 m c) 1 2 3 4):=by
  refine Tq (D10 m c (pS1 c10_4) (D10 m c c10_5 (Z10 m) nx) nx) (by kernel_rfl) ?_
  rw [K10_5_eq m c ]
  kernel_rfl
noncomputable def K10_3 (m:Nat) (c:Qd) (t1 t2 t3 t4:AV):Kt:=
 atN 11 fun v0=>
 dIn fun sv0=>
 Qk (Qh (C m) 24 t1 2) fun v1=>
 Qr (ldO (C m) 3 v1) fun v2=>
 Qk (Qh (C m) 24 t1 3) fun v3=>
 Qr (ldO (C m) 3 v3) fun v4=>
 Qk (Qh (C m) 24 t1 1) fun v5=>
 Qr (ldO (C m) 3 v5) fun v6=>
 Vw (mksO (C m) 51 v6 v6) (Nat.add v0 7) fun v7=>
 Qk (Xp (C m) 54 [(0,t4),(1,v2),(2,v4),(3,v7)]) fun v8=>
 Qk (Qh (C m) 66 t3 4) fun v9=>
 Xn (stO (C m) 54 v9 v8) fun v10 sv10=>
 K10_4 m c t1 t2 t3 t4
theorem K10_3_eq:D10 m c c10_3 (Z10 m) nx = (a4 (K10_3 m c) 1 2 3 4):=by
  refine Tq (D10 m c (pS1 c10_3) (D10 m c c10_4 (Z10 m) nx) nx) (by kernel_rfl) ?_
  rw [K10_4_eq m c ]
  kernel_rfl
noncomputable def K10_2 (m:Nat) (c:Qd) (t1 t2 t3:AV):Kt:=
 bnd (Qh (C m) 24 t1 0) fun v0=>
 bnd (ldO (C m) 22 v0) fun v1=>
 bnd (Qy (C m) c (fnV 31) [v1,(I 30)]) fun v2=>
 K10_3 m c t1 t2 t3 v2
theorem K10_2_eq:D10 m c c10_2 (Z10 m) nx = (a3 (K10_2 m c) 1 2 3):=by
  refine Tq (D10 m c (pS1 c10_2) (D10 m c c10_3 (Z10 m) nx) nx) (by kernel_rfl) ?_
  rw [K10_3_eq m c ]
  kernel_rfl
noncomputable def K10_1 (m:Nat) (c:Qd) (t1 t2:AV):Kt:=
 atN 5 fun v0=>
 dIn fun sv0=>
 Qr (ldO (C m) 24 t1) fun v1=>
 Vw (mksO (C m) 25 (I 18) (I 18)) (Nat.add v0 1) fun v2=>
 Qk (Xp (C m) 66 [(0,v1),(3,v2)]) fun v3=>
 Vw (Xe (C m) 66) (Nat.add v0 3) fun v4=>
 Xn (stO (C m) 66 v4 v3) fun v5 sv5=>
 K10_2 m c t1 t2 v4
theorem K10_1_eq:D10 m c c10_1 (Z10 m) nx = (a2 (K10_1 m c) 1 2):=by
  refine Tq (D10 m c (pS1 c10_1) (D10 m c c10_2 (Z10 m) nx) nx) (by kernel_rfl) ?_
  rw [K10_2_eq m c ]
  kernel_rfl
noncomputable def K10_0 (m:Nat) (c:Qd) (t0:AV):Kt:=
 bnd (Z2 24 t0) fun v0=>
 bnd (Xe (C m) 66) fun v1=>
 K10_1 m c v0 v1
theorem K10_0_eq:D10 m c c10_0 (Z10 m) nx = (a1 (K10_0 m c) 0):=by
  refine Tq (D10 m c (pS1 c10_0) (D10 m c c10_1 (Z10 m) nx) nx) (by kernel_rfl) ?_
  rw [K10_1_eq m c ]
  kernel_rfl
theorem F10_eq (t0:AV):Qu (C m) c Tryz.f10 [t0] = K10_0 m c t0:=by
  refine Tq ((D10 m c c10_0 (Z10 m) nx) (Xl [t0])) (by kernel_rfl) ?_
  rw [K10_0_eq m c]
  rfl
noncomputable def c31_0:Code:=(Qw Tryz.f31)
noncomputable def c31_1:Code:=(pS2 c31_0)
noncomputable def c31_2:Code:=(pS2 c31_1)
noncomputable def Z31 (m:Nat):=fun (e:Nat→AV)=>Qo (C m) (Xh e Tryz.f31.results.toList)
noncomputable def D31 (m:Nat) (c:Qd) (p:Code) (k:TE→Kt) (x:Nat→TE→Kt):=Q2 p (C m) c k x (Z31 m)
noncomputable def K31_2 (m:Nat) (c:Qd) (t0 t1:AV):Kt:=
 bnd (Qy (C m) c (fnV 82) [t0,(Iu 3)]) fun v0=>
 bnd (cvO (C m) 3 22 t1) fun v1=>
 bnd (Qy (C m) c (fnV 82) [v1,(Iu 2)]) fun v2=>
 bnd (Qy (C m) c (fnV 81) [v0,v2]) fun v3=>
 bnd (Qy (C m) c (fnV 82) [v3,(Iu 5)]) fun v4=>
 bnd (Qy (C m) c (fnV 83) [v4,(Iu 2)]) fun v5=>
 Qo (C m) [(none,v5)]
theorem K31_2_eq:D31 m c c31_2 (Z31 m) nx = (a2 (K31_2 m c) 0 1):=by
  refine Tq (D31 m c (pS1 c31_2) (D31 m c (pS1 (pS2 c31_2)) (Z31 m) nx) nx) (by kernel_rfl) ?_
  kernel_rfl
noncomputable def K31_1 (m:Nat) (c:Qd) (t0 t1:AV):Kt:=
 bnd (Qi (C m) .lss 3 t1 (I 0)) fun v0=>
 ifB v0
 ((K31_2 m c t0 (I 0)))
 ((K31_2 m c t0 t1))
theorem K31_1_eq:D31 m c c31_1 (Z31 m) nx = (a2 (K31_1 m c) 0 1):=by
  refine Tq (D31 m c (pS1 (pS1 c31_1)) (fun e=>ifB (e 7) ((D31 m c (pC1 (pS2 (pS1 c31_1))) (D31 m c c31_2 (Z31 m) nx) nx) e) ((D31 m c c31_2 (Z31 m) nx) e)) nx) (by kernel_rfl) ?_
  rw [K31_2_eq m c ]
  kernel_rfl
noncomputable def K31_0 (m:Nat) (c:Qd) (t0 t1:AV):Kt:=
 K31_1 m c t0 t1
theorem K31_0_eq:D31 m c c31_0 (Z31 m) nx = (a2 (K31_0 m c) 0 1):=by
  refine Tq (D31 m c (pS1 c31_0) (D31 m c c31_1 (Z31 m) nx) nx) (by kernel_rfl) ?_
  rw [K31_1_eq m c ]
  kernel_rfl
theorem F31_eq (t0 t1:AV):Qu (C m) c Tryz.f31 [t0,t1] = K31_0 m c t0 t1:=by
  refine Tq ((D31 m c c31_0 (Z31 m) nx) (Xl [t0,t1])) (by kernel_rfl) ?_
  rw [K31_0_eq m c]
  rfl
noncomputable def c82_0:Code:=(Qw Tryz.f82)
noncomputable def Z82 (m:Nat):=fun (e:Nat→AV)=>Qo (C m) (Xh e Tryz.f82.results.toList)
noncomputable def D82 (m:Nat) (c:Qd) (p:Code) (k:TE→Kt) (x:Nat→TE→Kt):=Q2 p (C m) c k x (Z82 m)
noncomputable def K82_0 (m:Nat) (c:Qd) (t0 t1:AV):Kt:=
 bnd (Qi (C m) .rem 22 t0 (Iu 2305843009213693951)) fun v0=>
 bnd (Qi (C m) .rem 22 t1 (Iu 2305843009213693951)) fun v1=>
 bnd (Qi (C m) .add 22 v0 v1) fun v2=>
 bnd (Qi (C m) .rem 22 v2 (Iu 2305843009213693951)) fun v3=>
 Qo (C m) [(none,v3)]
theorem K82_0_eq:D82 m c c82_0 (Z82 m) nx = (a2 (K82_0 m c) 0 1):=by
  refine Tq (D82 m c (pS1 c82_0) (D82 m c (pS1 (pS2 c82_0)) (Z82 m) nx) nx) (by kernel_rfl) ?_
  kernel_rfl
theorem F82_eq (t0 t1:AV):Qu (C m) c Tryz.f82 [t0,t1] = K82_0 m c t0 t1:=by
  refine Tq ((D82 m c c82_0 (Z82 m) nx) (Xl [t0,t1])) (by kernel_rfl) ?_
  rw [K82_0_eq m c]
  rfl
noncomputable def c81_0:Code:=(Qw Tryz.f81)
noncomputable def c81_1:Code:=(pS2 c81_0)
noncomputable def c81_2:Code:=(pS2 c81_1)
noncomputable def c81_3:Code:=(pS2 c81_2)
noncomputable def c81_4:Code:=(pS2 c81_3)
noncomputable def c81_5:Code:=(pL (pB (pS1 c81_3)))
noncomputable def c81_6:Code:=(pS2 c81_5)
noncomputable def c81_7:Code:=(pS2 (pB c81_6))
noncomputable def Z81 (m:Nat):=fun (e:Nat→AV)=>Qo (C m) (Xh e Tryz.f81.results.toList)
noncomputable def D81 (m:Nat) (c:Qd) (p:Code) (k:TE→Kt) (x:Nat→TE→Kt):=Q2 p (C m) c k x (Z81 m)
noncomputable def J5 (m:Nat) (c:Qd) (t5:AV):Kt:=
 Qo (C m) [(none,t5)]
theorem K81_4_eq:D81 m c c81_4 (Z81 m) nx = (a1 (J5 m c) 5):=by
  refine Tq (D81 m c (pS1 c81_4) (Z81 m) nx) (by kernel_rfl) ?_
  kernel_rfl
noncomputable def K81_7 (m:Nat) (c:Qd) (h5:AV→AV→AV→Kt) (t0 t1 t5:AV):Kt:=
 bnd (Qi (C m) .add 22 t0 t0) fun v0=>
 bnd (Qi (C m) .rem 22 v0 (Iu 2305843009213693951)) fun v1=>
 bnd (Qi (C m) .quo 22 t1 (Iu 2)) fun v2=>
 h5 v1 v2 t5
theorem K81_7_eq (h5:AV→AV→AV→Kt):D81 m c c81_7 (a3 h5 0 1 5) (Qa 1 (a3 h5 0 1 5) (Qa 0 (a1 (J5 m c) 5) nx)) = (a3 (K81_7 m c h5) 0 1 5):=by
  refine Tq (D81 m c (pS1 c81_7) (D81 m c (pS2 c81_7) (a3 h5 0 1 5) (Qa 1 (a3 h5 0 1 5) (Qa 0 (a1 (J5 m c) 5) nx))) (Qa 1 (a3 h5 0 1 5) (Qa 0 (a1 (J5 m c) 5) nx))) (by kernel_rfl) ?_
  kernel_rfl
noncomputable def K81_6 (m:Nat) (c:Qd) (h5:AV→AV→AV→Kt) (t0 t1 t5:AV):Kt:=
 bnd (Qi (C m) .rem 22 t1 (Iu 2)) fun v0=>
 bnd (Qi (C m) .eql 22 v0 (Iu 1)) fun v1=>
 ifB v1
 ((bnd (Qi (C m) .add 22 t5 t0) fun v2=>
 bnd (Qi (C m) .rem 22 v2 (Iu 2305843009213693951)) fun v3=>
 K81_7 m c h5 t0 t1 v3))
 ((K81_7 m c h5 t0 t1 t5))
theorem K81_6_eq (h5:AV→AV→AV→Kt):D81 m c c81_6 (a3 h5 0 1 5) (Qa 0 (a1 (J5 m c) 5) nx) = (a3 (K81_6 m c h5) 0 1 5):=by
  refine Tq (D81 m c (pS1 (pS1 (pB c81_6))) (fun e=>ifB (e 14) ((D81 m c (pC1 (pS2 (pS1 (pB c81_6)))) (D81 m c c81_7 (a3 h5 0 1 5) (Qa 1 (a3 h5 0 1 5) (Qa 0 (a1 (J5 m c) 5) nx))) (Qa 1 (a3 h5 0 1 5) (Qa 0 (a1 (J5 m c) 5) nx))) e) ((D81 m c c81_7 (a3 h5 0 1 5) (Qa 1 (a3 h5 0 1 5) (Qa 0 (a1 (J5 m c) 5) nx))) e)) (Qa 1 (a3 h5 0 1 5) (Qa 0 (a1 (J5 m c) 5) nx))) (by kernel_rfl) ?_
  rw [K81_7_eq m c h5 ]
  kernel_rfl
noncomputable def L81_5_b (m:Nat) (c:Qd) (h5:AV→AV→AV→Kt) (t0 t1 t5:AV):Kt:=
 bnd (Qi (C m) .gtr 22 t1 (Iu 0)) fun v0=>
 ifB v0
 ((K81_6 m c h5 t0 t1 t5))
 ((J5 m c t5))
noncomputable def L81_5 (m:Nat) (c:Qd) (n:Nat):AV→AV→AV→Kt:=
 Nat.rec (motive:=fun _=>AV→AV→AV→Kt) (fun t0 t1 t5=>noK) (fun _ ih=>L81_5_b m c ih) n
theorem L81_5_b_eq (h5:AV→AV→AV→Kt):D81 m c c81_5 (a3 h5 0 1 5) (Qa 0 (a1 (J5 m c) 5) nx) = fun e=>L81_5_b m c h5 (e 0) (e 1) (e 5):=by
  refine Tq (D81 m c (pS1 (pS1 c81_5)) (fun e=>ifB (e 11) ((D81 m c c81_6 (a3 h5 0 1 5) (Qa 0 (a1 (J5 m c) 5) nx)) e) ((a1 (J5 m c) 5) e)) (Qa 0 (a1 (J5 m c) 5) nx)) (by kernel_rfl) ?_
  rw [K81_6_eq m c h5 ]
  kernel_rfl
theorem L81_5_eq (n:Nat):(Qn (fun k=>D81 m c c81_5 k (Qa 0 (a1 (J5 m c) 5) nx)) n) = (a3 (L81_5 m c n) 0 1 5):=by
  induction n with
  | zero=>rfl
  | succ n ih=>
    show D81 m c c81_5 (Qn (fun k=>D81 m c c81_5 k (Qa 0 (a1 (J5 m c) 5) nx)) n) (Qa 0 (a1 (J5 m c) 5) nx) = _
    rw [ih,L81_5_b_eq m c (L81_5 m c n)]
    rfl
theorem L81_5_succ (n:Nat):L81_5 m c (n + 1) = L81_5_b m c (L81_5 m c n):=rfl
noncomputable def K81_3 (m:Nat) (c:Qd) (t0 t1 t5:AV):Kt:=
 L81_5 m c m t0 t1 t5
theorem K81_3_eq:D81 m c c81_3 (Z81 m) nx = (a3 (K81_3 m c) 0 1 5):=by
  refine Tq (Qn (fun k=>D81 m c c81_5 k (Qa 0 (D81 m c c81_4 (Z81 m) nx) nx)) m) (by kernel_rfl) ?_
  rw [K81_4_eq m c ,L81_5_eq m c m]
  kernel_rfl
noncomputable def K81_2 (m:Nat) (c:Qd) (t0 t1 t5:AV):Kt:=
 bnd (Qi (C m) .rem 22 t0 (Iu 2305843009213693951)) fun v0=>
 bnd (Qi (C m) .rem 22 t1 (Iu 2305843009213693951)) fun v1=>
 K81_3 m c v0 v1 t5
theorem K81_2_eq:D81 m c c81_2 (Z81 m) nx = (a3 (K81_2 m c) 0 1 5):=by
  refine Tq (D81 m c (pS1 c81_2) (D81 m c c81_3 (Z81 m) nx) nx) (by kernel_rfl) ?_
  rw [K81_3_eq m c ]
  kernel_rfl
noncomputable def K81_1 (m:Nat) (c:Qd) (t0 t1:AV):Kt:=
 K81_2 m c t0 t1 (Iu 0)
theorem K81_1_eq:D81 m c c81_1 (Z81 m) nx = (a2 (K81_1 m c) 0 1):=by
  refine Tq (D81 m c (pS1 c81_1) (D81 m c c81_2 (Z81 m) nx) nx) (by kernel_rfl) ?_
  rw [K81_2_eq m c ]
  kernel_rfl
noncomputable def K81_0 (m:Nat) (c:Qd) (t0 t1:AV):Kt:=
 K81_1 m c t0 t1
theorem K81_0_eq:D81 m c c81_0 (Z81 m) nx = (a2 (K81_0 m c) 0 1):=by
  refine Tq (D81 m c (pS1 c81_0) (D81 m c c81_1 (Z81 m) nx) nx) (by kernel_rfl) ?_
  rw [K81_1_eq m c ]
  kernel_rfl
theorem F81_eq (t0 t1:AV):Qu (C m) c Tryz.f81 [t0,t1] = K81_0 m c t0 t1:=by
  refine Tq ((D81 m c c81_0 (Z81 m) nx) (Xl [t0,t1])) (by kernel_rfl) ?_
  rw [K81_0_eq m c]
  rfl
noncomputable def c83_0:Code:=(Qw Tryz.f83)
noncomputable def c83_1:Code:=(pS2 c83_0)
noncomputable def c83_2:Code:=(pS2 c83_1)
noncomputable def c83_3:Code:=(pS2 c83_2)
noncomputable def c83_4:Code:=(pS2 c83_3)
noncomputable def c83_5:Code:=(pS2 c83_4)
noncomputable def Z83 (m:Nat):=fun (e:Nat→AV)=>Qo (C m) (Xh e Tryz.f83.results.toList)
noncomputable def D83 (m:Nat) (c:Qd) (p:Code) (k:TE→Kt) (x:Nat→TE→Kt):=Q2 p (C m) c k x (Z83 m)
noncomputable def K83_5 (m:Nat) (c:Qd) (t5:AV):Kt:=
 Qo (C m) [(none,t5)]
theorem K83_5_eq:D83 m c c83_5 (Z83 m) nx = (a1 (K83_5 m c) 5):=by
  refine Tq (D83 m c (pS1 c83_5) (Z83 m) nx) (by kernel_rfl) ?_
  kernel_rfl
noncomputable def K83_4 (m:Nat) (c:Qd) (t0 t1 t5:AV):Kt:=
 bnd (Qi (C m) .rem 22 t1 (Iu 2)) fun v0=>
 bnd (Qi (C m) .eql 22 v0 (Iu 1)) fun v1=>
 ifB v1
 ((bnd (Qy (C m) c (fnV 81) [t5,t0]) fun v2=>
 K83_5 m c v2))
 ((K83_5 m c t5))
theorem K83_4_eq:D83 m c c83_4 (Z83 m) nx = (a3 (K83_4 m c) 0 1 5):=by
  refine Tq (D83 m c (pS1 (pS1 c83_4)) (fun e=>ifB (e 17) ((D83 m c (pC1 (pS2 (pS1 c83_4))) (D83 m c c83_5 (Z83 m) nx) nx) e) ((D83 m c c83_5 (Z83 m) nx) e)) nx) (by kernel_rfl) ?_
  rw [K83_5_eq m c ]
  kernel_rfl
noncomputable def K83_3 (m:Nat) (c:Qd) (t0 t1 t5:AV):Kt:=
 bnd (Qy (C m) c (fnV 81) [t5,t5]) fun v0=>
 K83_4 m c t0 t1 v0
theorem K83_3_eq:D83 m c c83_3 (Z83 m) nx = (a3 (K83_3 m c) 0 1 5):=by
  refine Tq (D83 m c (pS1 c83_3) (D83 m c c83_4 (Z83 m) nx) nx) (by kernel_rfl) ?_
  rw [K83_4_eq m c ]
  kernel_rfl
noncomputable def K83_2 (m:Nat) (c:Qd) (t0 t1:AV):Kt:=
 bnd (Qi (C m) .quo 22 t1 (Iu 2)) fun v0=>
 bnd (Qy (C m) c (fnV 83) [t0,v0]) fun v1=>
 K83_3 m c t0 t1 v1
theorem K83_2_eq:D83 m c c83_2 (Z83 m) nx = (a2 (K83_2 m c) 0 1):=by
  refine Tq (D83 m c (pS1 c83_2) (D83 m c c83_3 (Z83 m) nx) nx) (by kernel_rfl) ?_
  rw [K83_3_eq m c ]
  kernel_rfl
noncomputable def K83_1 (m:Nat) (c:Qd) (t0 t1:AV):Kt:=
 bnd (Qi (C m) .eql 22 t1 (Iu 0)) fun v0=>
 ifB v0
 ((Qo (C m) [(none,(Iu 1))]))
 ((K83_2 m c t0 t1))
theorem K83_1_eq:D83 m c c83_1 (Z83 m) nx = (a2 (K83_1 m c) 0 1):=by
  refine Tq (D83 m c (pS1 (pS1 c83_1)) (fun e=>ifB (e 7) ((D83 m c (pS1 (pC1 (pS2 (pS1 c83_1)))) (Z83 m) nx) e) ((D83 m c c83_2 (Z83 m) nx) e)) nx) (by kernel_rfl) ?_
  rw [K83_2_eq m c ]
  kernel_rfl
noncomputable def K83_0 (m:Nat) (c:Qd) (t0 t1:AV):Kt:=
 K83_1 m c t0 t1
theorem K83_0_eq:D83 m c c83_0 (Z83 m) nx = (a2 (K83_0 m c) 0 1):=by
  refine Tq (D83 m c (pS1 c83_0) (D83 m c c83_1 (Z83 m) nx) nx) (by kernel_rfl) ?_
  rw [K83_1_eq m c ]
  kernel_rfl
theorem F83_eq (t0 t1:AV):Qu (C m) c Tryz.f83 [t0,t1] = K83_0 m c t0 t1:=by
  refine Tq ((D83 m c c83_0 (Z83 m) nx) (Xl [t0,t1])) (by kernel_rfl) ?_
  rw [K83_0_eq m c]
  rfl
noncomputable def c32_0:Code:=(Qw Tryz.f32)
noncomputable def c32_1:Code:=(pS2 c32_0)
noncomputable def c32_2:Code:=(pS2 c32_1)
noncomputable def c32_3:Code:=(pS2 c32_2)
noncomputable def c32_4:Code:=(pS2 (pS1 c32_2))
noncomputable def c32_5:Code:=(pL (pB c32_4))
noncomputable def c32_6:Code:=(pS2 c32_5)
noncomputable def c32_7:Code:=(pS2 c32_6)
noncomputable def Z32 (m:Nat):=fun (e:Nat→AV)=>Qo (C m) (Xh e Tryz.f32.results.toList)
noncomputable def D32 (m:Nat) (c:Qd) (p:Code) (k:TE→Kt) (x:Nat→TE→Kt):=Q2 p (C m) c k x (Z32 m)
noncomputable def K32_3 (m:Nat) (c:Qd) (t5:AV):Kt:=
 Qo (C m) [(none,t5)]
theorem K32_3_eq:D32 m c c32_3 (Z32 m) nx = (a1 (K32_3 m c) 5):=by
  refine Tq (D32 m c (pS1 c32_3) (Z32 m) nx) (by kernel_rfl) ?_
  kernel_rfl
noncomputable def K32_7 (m:Nat) (c:Qd) (h5:AV→AV→AV→AV→Kt) (t0 t1 t5 t6:AV):Kt:=
 bnd (Qi (C m) .add 3 t6 (I 1)) fun v0=>
 h5 t0 t1 t5 v0
theorem K32_7_eq (h5:AV→AV→AV→AV→Kt):D32 m c c32_7 (a4 h5 0 1 5 6) (Qa 0 (a1 (K32_3 m c) 5) nx) = (a4 (K32_7 m c h5) 0 1 5 6):=by
  kernel_rfl
noncomputable def K32_6 (m:Nat) (c:Qd) (h5:AV→AV→AV→AV→Kt) (t0 t1 t5 t6:AV):Kt:=
 bnd (mksO (C m) 25 t1 t1) fun v0=>
 bnd (Vi (C m) 27 1 [(0,v0)]) fun v1=>
 bnd (Qv (C m) .append [27,27] [t5,v1]) fun v2=>
 K32_7 m c h5 t0 t1 v2 t6
theorem K32_6_eq (h5:AV→AV→AV→AV→Kt):D32 m c c32_6 (a4 h5 0 1 5 6) (Qa 0 (a1 (K32_3 m c) 5) nx) = (a4 (K32_6 m c h5) 0 1 5 6):=by
  refine Tq (D32 m c (pB (pS1 c32_6)) (D32 m c c32_7 (a4 h5 0 1 5 6) (Qa 0 (a1 (K32_3 m c) 5) nx)) (Qa 1 (D32 m c c32_7 (a4 h5 0 1 5 6) (Qa 0 (a1 (K32_3 m c) 5) nx)) (Qa 0 (a1 (K32_3 m c) 5) nx))) (by kernel_rfl) ?_
  rw [K32_7_eq m c h5 ]
  kernel_rfl
noncomputable def L32_5_b (m:Nat) (c:Qd) (h5:AV→AV→AV→AV→Kt) (t0 t1 t5 t6:AV):Kt:=
 bnd (Qi (C m) .lss 3 t6 t0) fun v0=>
 ifB v0
 ((K32_6 m c h5 t0 t1 t5 t6))
 ((K32_3 m c t5))
noncomputable def L32_5 (m:Nat) (c:Qd) (n:Nat):AV→AV→AV→AV→Kt:=
 Nat.rec (motive:=fun _=>AV→AV→AV→AV→Kt) (fun t0 t1 t5 t6=>noK) (fun _ ih=>L32_5_b m c ih) n
theorem L32_5_b_eq (h5:AV→AV→AV→AV→Kt):D32 m c c32_5 (a4 h5 0 1 5 6) (Qa 0 (a1 (K32_3 m c) 5) nx) = fun e=>L32_5_b m c h5 (e 0) (e 1) (e 5) (e 6):=by
  refine Tq (D32 m c (pS1 (pS1 c32_5)) (fun e=>ifB (e 9) ((D32 m c c32_6 (a4 h5 0 1 5 6) (Qa 0 (a1 (K32_3 m c) 5) nx)) e) ((a1 (K32_3 m c) 5) e)) (Qa 0 (a1 (K32_3 m c) 5) nx)) (by kernel_rfl) ?_
  rw [K32_6_eq m c h5 ]
  kernel_rfl
theorem L32_5_eq (n:Nat):(Qn (fun k=>D32 m c c32_5 k (Qa 0 (a1 (K32_3 m c) 5) nx)) n) = (a4 (L32_5 m c n) 0 1 5 6):=by
  induction n with
  | zero=>rfl
  | succ n ih=>
    show D32 m c c32_5 (Qn (fun k=>D32 m c c32_5 k (Qa 0 (a1 (K32_3 m c) 5) nx)) n) (Qa 0 (a1 (K32_3 m c) 5) nx) = _
    rw [ih,L32_5_b_eq m c (L32_5 m c n)]
    rfl
theorem L32_5_succ (n:Nat):L32_5 m c (n + 1) = L32_5_b m c (L32_5 m c n):=rfl
noncomputable def K32_4 (m:Nat) (c:Qd) (t0 t1 t5 t6:AV):Kt:=
 L32_5 m c m t0 t1 t5 t6
theorem K32_4_eq:D32 m c c32_4 (a1 (K32_3 m c) 5) nx = (a4 (K32_4 m c) 0 1 5 6):=by
  refine Tq (Qn (fun k=>D32 m c c32_5 k (Qa 0 (a1 (K32_3 m c) 5) nx)) m) (by kernel_rfl) ?_
  rw [L32_5_eq m c m]
  kernel_rfl
noncomputable def K32_2 (m:Nat) (c:Qd) (t0 t1 t5:AV):Kt:=
 K32_4 m c t0 t1 t5 (I 0)
theorem K32_2_eq:D32 m c c32_2 (Z32 m) nx = (a3 (K32_2 m c) 0 1 5):=by
  refine Tq (D32 m c (pS1 (pS1 c32_2)) (D32 m c c32_4 (D32 m c c32_3 (Z32 m) nx) nx) nx) (by kernel_rfl) ?_
  rw [K32_3_eq m c ,K32_4_eq m c ]
  kernel_rfl
noncomputable def K32_1 (m:Nat) (c:Qd) (t0 t1:AV):Kt:=
 K32_2 m c t0 t1 NS
theorem K32_1_eq:D32 m c c32_1 (Z32 m) nx = (a2 (K32_1 m c) 0 1):=by
  refine Tq (D32 m c (pS1 c32_1) (D32 m c c32_2 (Z32 m) nx) nx) (by kernel_rfl) ?_
  rw [K32_2_eq m c ]
  kernel_rfl
noncomputable def K32_0 (m:Nat) (c:Qd) (t0 t1:AV):Kt:=
 K32_1 m c t0 t1
theorem K32_0_eq:D32 m c c32_0 (Z32 m) nx = (a2 (K32_0 m c) 0 1):=by
  refine Tq (D32 m c (pS1 c32_0) (D32 m c c32_1 (Z32 m) nx) nx) (by kernel_rfl) ?_
  rw [K32_1_eq m c ]
  kernel_rfl
theorem F32_eq (t0 t1:AV):Qu (C m) c Tryz.f32 [t0,t1] = K32_0 m c t0 t1:=by
  refine Tq ((D32 m c c32_0 (Z32 m) nx) (Xl [t0,t1])) (by kernel_rfl) ?_
  rw [K32_0_eq m c]
  rfl
noncomputable def c33_0:Code:=(Qw Tryz.f33)
noncomputable def Z33 (m:Nat):=fun (e:Nat→AV)=>Qo (C m) (Xh e Tryz.f33.results.toList)
noncomputable def D33 (m:Nat) (c:Qd) (p:Code) (k:TE→Kt) (x:Nat→TE→Kt):=Q2 p (C m) c k x (Z33 m)
noncomputable def K33_0 (m:Nat) (c:Qd) (t0 t1 t2:AV):Kt:=
 bnd (Xe (C m) 55) fun v0=>
 bnd (mksO (C m) 32 t1 t1) fun v1=>
 bnd (Xp (C m) 55 [(0,t0),(1,t2),(2,v1)]) fun v2=>
 bnd (stO (C m) 55 v0 v2) fun _=>
 Qo (C m) [(some 55,v0)]
theorem K33_0_eq:D33 m c c33_0 (Z33 m) nx = (a3 (K33_0 m c) 0 1 2):=by
  refine Tq (D33 m c (pS1 c33_0) (D33 m c (pS1 (pS2 c33_0)) (Z33 m) nx) nx) (by kernel_rfl) ?_
  kernel_rfl
theorem F33_eq (t0 t1 t2:AV):Qu (C m) c Tryz.f33 [t0,t1,t2] = K33_0 m c t0 t1 t2:=by
  refine Tq ((D33 m c c33_0 (Z33 m) nx) (Xl [t0,t1,t2])) (by kernel_rfl) ?_
  rw [K33_0_eq m c]
  rfl
noncomputable def c34_0:Code:=(Qw Tryz.f34)
noncomputable def c34_1:Code:=(pS2 c34_0)
noncomputable def c34_2:Code:=(pS2 c34_1)
noncomputable def c34_3:Code:=(pS2 c34_2)
noncomputable def c34_4:Code:=(pS2 (pS1 c34_2))
noncomputable def c34_5:Code:=(pL (pB c34_4))
noncomputable def c34_6:Code:=(pS2 c34_5)
noncomputable def c34_7:Code:=(pS2 c34_6)
noncomputable def c34_8:Code:=(pS2 (pB (pS1 c34_6)))
noncomputable def c34_9:Code:=(pS2 c34_8)
noncomputable def c34_10:Code:=(pS2 (pS1 c34_8))
noncomputable def c34_11:Code:=(pL (pB c34_10))
noncomputable def c34_12:Code:=(pS2 c34_11)
noncomputable def c34_13:Code:=(pS2 c34_12)
noncomputable def c34_14:Code:=(pS2 (pB (pS1 c34_12)))
noncomputable def c34_15:Code:=(pS2 c34_14)
noncomputable def c34_16:Code:=(pS2 (pS1 c34_14))
noncomputable def c34_17:Code:=(pL (pB c34_16))
noncomputable def c34_18:Code:=(pS2 c34_17)
noncomputable def c34_19:Code:=(pS2 c34_18)
noncomputable def Z34 (m:Nat):=fun (e:Nat→AV)=>Qo (C m) (Xh e Tryz.f34.results.toList)
noncomputable def D34 (m:Nat) (c:Qd) (p:Code) (k:TE→Kt) (x:Nat→TE→Kt):=Q2 p (C m) c k x (Z34 m)
noncomputable def Xr (m:Nat) (c:Qd) (t4 t5:AV):Kt:=
 bnd (ldO (C m) 64 t5) fun v0=>
 bnd (stO (C m) 64 t4 v0) fun _=>
 Qo (C m) [(some 64,t4)]
theorem K34_3_eq:D34 m c c34_3 (Z34 m) nx = (a2 (Xr m c) 4 5):=by
  refine Tq (D34 m c (pS1 c34_3) (Z34 m) nx) (by kernel_rfl) ?_
  kernel_rfl
noncomputable def Ya (m:Nat) (c:Qd) (h5:AV→AV→AV→AV→AV→Kt) (t0 t3 t4 t5 t6:AV):Kt:=
 bnd (Qi (C m) .add 3 t6 (I 1)) fun v0=>
 h5 t0 t3 t4 t5 v0
theorem K34_7_eq (h5:AV→AV→AV→AV→AV→Kt):D34 m c c34_7 (a5 h5 0 3 4 5 6) (Qa 0 (a2 (Xr m c) 4 5) nx) = (a5 (Ya m c h5) 0 3 4 5 6):=by
  kernel_rfl
noncomputable def Y0 (m:Nat) (c:Qd) (h5:AV→AV→AV→AV→AV→Kt) (t0 t3 t4 t5 t6 t7:AV):Kt:=
 bnd (Qh (C m) 64 t5 1) fun v0=>
 bnd (ldO (C m) 62 v0) fun v1=>
 bnd (Vi (C m) 62 1 [(0,t7)]) fun v2=>
 bnd (Qv (C m) .append [62,62] [v1,v2]) fun v3=>
 bnd (Qh (C m) 64 t5 1) fun v4=>
 bnd (stO (C m) 62 v4 v3) fun _=>
 Ya m c h5 t0 t3 t4 t5 t6
theorem K34_9_eq (h5:AV→AV→AV→AV→AV→Kt):D34 m c c34_9 (a5 (Ya m c h5) 0 3 4 5 6) (Qa 1 (a5 (Ya m c h5) 0 3 4 5 6) (Qa 0 (a2 (Xr m c) 4 5) nx)) = (a6 (Y0 m c h5) 0 3 4 5 6 7):=by
  kernel_rfl
noncomputable def Zh (m:Nat) (c:Qd) (h5:AV→AV→AV→AV→AV→Kt) (h11:AV→AV→AV→AV→AV→AV→AV→Kt) (t0 t3 t4 t5 t6 t7 t8:AV):Kt:=
 bnd (Qi (C m) .add 3 t8 (I 1)) fun v0=>
 h11 t0 t3 t4 t5 t6 t7 v0
theorem K34_13_eq (h5:AV→AV→AV→AV→AV→Kt) (h11:AV→AV→AV→AV→AV→AV→AV→Kt):D34 m c c34_13 (a7 h11 0 3 4 5 6 7 8) (Qa 2 (a6 (Y0 m c h5) 0 3 4 5 6 7) (Qa 1 (a5 (Ya m c h5) 0 3 4 5 6) (Qa 0 (a2 (Xr m c) 4 5) nx))) = (a7 (Zh m c h5 h11) 0 3 4 5 6 7 8):=by
  kernel_rfl
noncomputable def Wm (m:Nat) (c:Qd) (h5:AV→AV→AV→AV→AV→Kt) (h11:AV→AV→AV→AV→AV→AV→AV→Kt) (t0 t3 t4 t5 t6 t7 t8 t9:AV):Kt:=
 bnd (ldO (C m) 118 t9) fun v0=>
 bnd (Xp (C m) 120 [(0,v0),(2,(I (-1)))]) fun v1=>
 bnd (Vi (C m) 112 1 [(0,v1)]) fun v2=>
 bnd (Qv (C m) .append [112,112] [t7,v2]) fun v3=>
 Zh m c h5 h11 t0 t3 t4 t5 t6 v3 t8
theorem K34_15_eq (h5:AV→AV→AV→AV→AV→Kt) (h11:AV→AV→AV→AV→AV→AV→AV→Kt):D34 m c c34_15 (a7 (Zh m c h5 h11) 0 3 4 5 6 7 8) (Qa 3 (a7 (Zh m c h5 h11) 0 3 4 5 6 7 8) (Qa 2 (a6 (Y0 m c h5) 0 3 4 5 6 7) (Qa 1 (a5 (Ya m c h5) 0 3 4 5 6) (Qa 0 (a2 (Xr m c) 4 5) nx)))) = (a8 (Wm m c h5 h11) 0 3 4 5 6 7 8 9):=by
  kernel_rfl
noncomputable def K34_19 (m:Nat) (c:Qd) (h5:AV→AV→AV→AV→AV→Kt) (h11:AV→AV→AV→AV→AV→AV→AV→Kt) (h17:AV→AV→AV→AV→AV→AV→AV→AV→AV→Kt) (t0 t3 t4 t5 t6 t7 t8 t9 t10:AV):Kt:=
 bnd (Qi (C m) .add 3 t10 (I 1)) fun v0=>
 h17 t0 t3 t4 t5 t6 t7 t8 t9 v0
theorem K34_19_eq (h5:AV→AV→AV→AV→AV→Kt) (h11:AV→AV→AV→AV→AV→AV→AV→Kt) (h17:AV→AV→AV→AV→AV→AV→AV→AV→AV→Kt):D34 m c c34_19 (a9 h17 0 3 4 5 6 7 8 9 10) (Qa 4 (a8 (Wm m c h5 h11) 0 3 4 5 6 7 8 9) (Qa 3 (a7 (Zh m c h5 h11) 0 3 4 5 6 7 8) (Qa 2 (a6 (Y0 m c h5) 0 3 4 5 6 7) (Qa 1 (a5 (Ya m c h5) 0 3 4 5 6) (Qa 0 (a2 (Xr m c) 4 5) nx))))) = (a9 (K34_19 m c h5 h11 h17) 0 3 4 5 6 7 8 9 10):=by
  kernel_rfl
noncomputable def K34_18 (m:Nat) (c:Qd) (h5:AV→AV→AV→AV→AV→Kt) (h11:AV→AV→AV→AV→AV→AV→AV→Kt) (h17:AV→AV→AV→AV→AV→AV→AV→AV→AV→Kt) (t0 t3 t4 t5 t6 t7 t8 t9 t10:AV):Kt:=
 atN 9 fun v0=>
 dIn fun sv0=>
 Qk (Qh (C m) 118 t9 1) fun v1=>
 Qr (ldO (C m) 113 v1) fun v2=>
 Qk (Qh (C m) 24 t3 17) fun v3=>
 Qr (ldO (C m) 3 v3) fun v4=>
 Vw (mksO (C m) 32 v4 v4) (Nat.add v0 4) fun v5=>
 Vw (Vi (C m) 113 1 [(0,v5)]) (Nat.add v0 5) fun v6=>
 Xn (Qv (C m) .append [113,113] [v2,v6]) fun v7 sv7=>
 Qk (Qh (C m) 118 t9 1) fun v8=>
 Xn (stO (C m) 113 v8 v7) fun v9 sv9=>
 K34_19 m c h5 h11 h17 t0 t3 t4 t5 t6 t7 t8 t9 t10
theorem K34_18_eq (h5:AV→AV→AV→AV→AV→Kt) (h11:AV→AV→AV→AV→AV→AV→AV→Kt) (h17:AV→AV→AV→AV→AV→AV→AV→AV→AV→Kt):D34 m c c34_18 (a9 h17 0 3 4 5 6 7 8 9 10) (Qa 4 (a8 (Wm m c h5 h11) 0 3 4 5 6 7 8 9) (Qa 3 (a7 (Zh m c h5 h11) 0 3 4 5 6 7 8) (Qa 2 (a6 (Y0 m c h5) 0 3 4 5 6 7) (Qa 1 (a5 (Ya m c h5) 0 3 4 5 6) (Qa 0 (a2 (Xr m c) 4 5) nx))))) = (a9 (K34_18 m c h5 h11 h17) 0 3 4 5 6 7 8 9 10):=by
  refine Tq (D34 m c (pB (pS1 c34_18)) (D34 m c c34_19 (a9 h17 0 3 4 5 6 7 8 9 10) (Qa 4 (a8 (Wm m c h5 h11) 0 3 4 5 6 7 8 9) (Qa 3 (a7 (Zh m c h5 h11) 0 3 4 5 6 7 8) (Qa 2 (a6 (Y0 m c h5) 0 3 4 5 6 7) (Qa 1 (a5 (Ya m c h5) 0 3 4 5 6) (Qa 0 (a2 (Xr m c) 4 5) nx)))))) (Qa 5 (D34 m c c34_19 (a9 h17 0 3 4 5 6 7 8 9 10) (Qa 4 (a8 (Wm m c h5 h11) 0 3 4 5 6 7 8 9) (Qa 3 (a7 (Zh m c h5 h11) 0 3 4 5 6 7 8) (Qa 2 (a6 (Y0 m c h5) 0 3 4 5 6 7) (Qa 1 (a5 (Ya m c h5) 0 3 4 5 6) (Qa 0 (a2 (Xr m c) 4 5) nx)))))) (Qa 4 (a8 (Wm m c h5 h11) 0 3 4 5 6 7 8 9) (Qa 3 (a7 (Zh m c h5 h11) 0 3 4 5 6 7 8) (Qa 2 (a6 (Y0 m c h5) 0 3 4 5 6 7) (Qa 1 (a5 (Ya m c h5) 0 3 4 5 6) (Qa 0 (a2 (Xr m c) 4 5) nx))))))) (by kernel_rfl) ?_
  rw [K34_19_eq m c h5 h11 h17 ]
  kernel_rfl
noncomputable def L34_17_b (m:Nat) (c:Qd) (h5:AV→AV→AV→AV→AV→Kt) (h11:AV→AV→AV→AV→AV→AV→AV→Kt) (h17:AV→AV→AV→AV→AV→AV→AV→AV→AV→Kt) (t0 t3 t4 t5 t6 t7 t8 t9 t10:AV):Kt:=
 bnd (Qh (C m) 24 t3 16) fun v0=>
 bnd (ldO (C m) 3 v0) fun v1=>
 bnd (Qi (C m) .lss 3 t10 v1) fun v2=>
 ifB v2
 ((K34_18 m c h5 h11 h17 t0 t3 t4 t5 t6 t7 t8 t9 t10))
 ((Wm m c h5 h11 t0 t3 t4 t5 t6 t7 t8 t9))
noncomputable def L34_17 (m:Nat) (c:Qd) (h5:AV→AV→AV→AV→AV→Kt) (h11:AV→AV→AV→AV→AV→AV→AV→Kt) (n:Nat):AV→AV→AV→AV→AV→AV→AV→AV→AV→Kt:=
 Nat.rec (motive:=fun _=>AV→AV→AV→AV→AV→AV→AV→AV→AV→Kt) (fun t0 t3 t4 t5 t6 t7 t8 t9 t10=>noK) (fun _ ih=>L34_17_b m c h5 h11 ih) n
theorem L34_17_b_eq (h5:AV→AV→AV→AV→AV→Kt) (h11:AV→AV→AV→AV→AV→AV→AV→Kt) (h17:AV→AV→AV→AV→AV→AV→AV→AV→AV→Kt):D34 m c c34_17 (a9 h17 0 3 4 5 6 7 8 9 10) (Qa 4 (a8 (Wm m c h5 h11) 0 3 4 5 6 7 8 9) (Qa 3 (a7 (Zh m c h5 h11) 0 3 4 5 6 7 8) (Qa 2 (a6 (Y0 m c h5) 0 3 4 5 6 7) (Qa 1 (a5 (Ya m c h5) 0 3 4 5 6) (Qa 0 (a2 (Xr m c) 4 5) nx))))) = fun e=>L34_17_b m c h5 h11 h17 (e 0) (e 3) (e 4) (e 5) (e 6) (e 7) (e 8) (e 9) (e 10):=by
  refine Tq (D34 m c (pS1 (pS1 c34_17)) (fun e=>ifB (e 31) ((D34 m c c34_18 (a9 h17 0 3 4 5 6 7 8 9 10) (Qa 4 (a8 (Wm m c h5 h11) 0 3 4 5 6 7 8 9) (Qa 3 (a7 (Zh m c h5 h11) 0 3 4 5 6 7 8) (Qa 2 (a6 (Y0 m c h5) 0 3 4 5 6 7) (Qa 1 (a5 (Ya m c h5) 0 3 4 5 6) (Qa 0 (a2 (Xr m c) 4 5) nx)))))) e) ((a8 (Wm m c h5 h11) 0 3 4 5 6 7 8 9) e)) (Qa 4 (a8 (Wm m c h5 h11) 0 3 4 5 6 7 8 9) (Qa 3 (a7 (Zh m c h5 h11) 0 3 4 5 6 7 8) (Qa 2 (a6 (Y0 m c h5) 0 3 4 5 6 7) (Qa 1 (a5 (Ya m c h5) 0 3 4 5 6) (Qa 0 (a2 (Xr m c) 4 5) nx)))))) (by kernel_rfl) ?_
  rw [K34_18_eq m c h5 h11 h17 ]
  kernel_rfl
theorem L34_17_eq (h5:AV→AV→AV→AV→AV→Kt) (h11:AV→AV→AV→AV→AV→AV→AV→Kt) (n:Nat):(Qn (fun k=>D34 m c c34_17 k (Qa 4 (a8 (Wm m c h5 h11) 0 3 4 5 6 7 8 9) (Qa 3 (a7 (Zh m c h5 h11) 0 3 4 5 6 7 8) (Qa 2 (a6 (Y0 m c h5) 0 3 4 5 6 7) (Qa 1 (a5 (Ya m c h5) 0 3 4 5 6) (Qa 0 (a2 (Xr m c) 4 5) nx)))))) n) = (a9 (L34_17 m c h5 h11 n) 0 3 4 5 6 7 8 9 10):=by
  induction n with
  | zero=>rfl
  | succ n ih=>
    show D34 m c c34_17 (Qn (fun k=>D34 m c c34_17 k (Qa 4 (a8 (Wm m c h5 h11) 0 3 4 5 6 7 8 9) (Qa 3 (a7 (Zh m c h5 h11) 0 3 4 5 6 7 8) (Qa 2 (a6 (Y0 m c h5) 0 3 4 5 6 7) (Qa 1 (a5 (Ya m c h5) 0 3 4 5 6) (Qa 0 (a2 (Xr m c) 4 5) nx)))))) n) (Qa 4 (a8 (Wm m c h5 h11) 0 3 4 5 6 7 8 9) (Qa 3 (a7 (Zh m c h5 h11) 0 3 4 5 6 7 8) (Qa 2 (a6 (Y0 m c h5) 0 3 4 5 6 7) (Qa 1 (a5 (Ya m c h5) 0 3 4 5 6) (Qa 0 (a2 (Xr m c) 4 5) nx))))) = _
    rw [ih,L34_17_b_eq m c h5 h11 (L34_17 m c h5 h11 n)]
    rfl
theorem L34_17_succ (h5:AV→AV→AV→AV→AV→Kt) (h11:AV→AV→AV→AV→AV→AV→AV→Kt) (n:Nat):L34_17 m c h5 h11 (n + 1) = L34_17_b m c h5 h11 (L34_17 m c h5 h11 n):=rfl
noncomputable def K34_16 (m:Nat) (c:Qd) (h5:AV→AV→AV→AV→AV→Kt) (h11:AV→AV→AV→AV→AV→AV→AV→Kt) (t0 t3 t4 t5 t6 t7 t8 t9 t10:AV):Kt:=
 L34_17 m c h5 h11 m t0 t3 t4 t5 t6 t7 t8 t9 t10
theorem K34_16_eq (h5:AV→AV→AV→AV→AV→Kt) (h11:AV→AV→AV→AV→AV→AV→AV→Kt):D34 m c c34_16 (a8 (Wm m c h5 h11) 0 3 4 5 6 7 8 9) (Qa 3 (a7 (Zh m c h5 h11) 0 3 4 5 6 7 8) (Qa 2 (a6 (Y0 m c h5) 0 3 4 5 6 7) (Qa 1 (a5 (Ya m c h5) 0 3 4 5 6) (Qa 0 (a2 (Xr m c) 4 5) nx)))) = (a9 (K34_16 m c h5 h11) 0 3 4 5 6 7 8 9 10):=by
  refine Tq (Qn (fun k=>D34 m c c34_17 k (Qa 4 (a8 (Wm m c h5 h11) 0 3 4 5 6 7 8 9) (Qa 3 (a7 (Zh m c h5 h11) 0 3 4 5 6 7 8) (Qa 2 (a6 (Y0 m c h5) 0 3 4 5 6 7) (Qa 1 (a5 (Ya m c h5) 0 3 4 5 6) (Qa 0 (a2 (Xr m c) 4 5) nx)))))) m) (by kernel_rfl) ?_
  rw [L34_17_eq m c h5 h11 m]
  kernel_rfl
noncomputable def K34_14 (m:Nat) (c:Qd) (h5:AV→AV→AV→AV→AV→Kt) (h11:AV→AV→AV→AV→AV→AV→AV→Kt) (t0 t3 t4 t5 t6 t7 t8 t9:AV):Kt:=
 K34_16 m c h5 h11 t0 t3 t4 t5 t6 t7 t8 t9 (I 0)
theorem K34_14_eq (h5:AV→AV→AV→AV→AV→Kt) (h11:AV→AV→AV→AV→AV→AV→AV→Kt):D34 m c c34_14 (a7 (Zh m c h5 h11) 0 3 4 5 6 7 8) (Qa 3 (a7 (Zh m c h5 h11) 0 3 4 5 6 7 8) (Qa 2 (a6 (Y0 m c h5) 0 3 4 5 6 7) (Qa 1 (a5 (Ya m c h5) 0 3 4 5 6) (Qa 0 (a2 (Xr m c) 4 5) nx)))) = (a8 (K34_14 m c h5 h11) 0 3 4 5 6 7 8 9):=by
  refine Tq (D34 m c (pS1 (pS1 c34_14)) (D34 m c c34_16 (D34 m c c34_15 (a7 (Zh m c h5 h11) 0 3 4 5 6 7 8) (Qa 3 (a7 (Zh m c h5 h11) 0 3 4 5 6 7 8) (Qa 2 (a6 (Y0 m c h5) 0 3 4 5 6 7) (Qa 1 (a5 (Ya m c h5) 0 3 4 5 6) (Qa 0 (a2 (Xr m c) 4 5) nx))))) (Qa 3 (a7 (Zh m c h5 h11) 0 3 4 5 6 7 8) (Qa 2 (a6 (Y0 m c h5) 0 3 4 5 6 7) (Qa 1 (a5 (Ya m c h5) 0 3 4 5 6) (Qa 0 (a2 (Xr m c) 4 5) nx))))) (Qa 3 (a7 (Zh m c h5 h11) 0 3 4 5 6 7 8) (Qa 2 (a6 (Y0 m c h5) 0 3 4 5 6 7) (Qa 1 (a5 (Ya m c h5) 0 3 4 5 6) (Qa 0 (a2 (Xr m c) 4 5) nx))))) (by kernel_rfl) ?_
  rw [K34_15_eq m c h5 h11 ,K34_16_eq m c h5 h11 ]
  kernel_rfl
noncomputable def K34_12 (m:Nat) (c:Qd) (h5:AV→AV→AV→AV→AV→Kt) (h11:AV→AV→AV→AV→AV→AV→AV→Kt) (t0 t3 t4 t5 t6 t7 t8:AV):Kt:=
 bnd (Qy (C m) c (fnV 31) [t0,(I 0)]) fun v0=>
 bnd (Xp (C m) 118 [(0,v0)]) fun v1=>
 bnd (Xe (C m) 118) fun v2=>
 bnd (stO (C m) 118 v2 v1) fun _=>
 K34_14 m c h5 h11 t0 t3 t4 t5 t6 t7 t8 v2
theorem K34_12_eq (h5:AV→AV→AV→AV→AV→Kt) (h11:AV→AV→AV→AV→AV→AV→AV→Kt):D34 m c c34_12 (a7 h11 0 3 4 5 6 7 8) (Qa 2 (a6 (Y0 m c h5) 0 3 4 5 6 7) (Qa 1 (a5 (Ya m c h5) 0 3 4 5 6) (Qa 0 (a2 (Xr m c) 4 5) nx))) = (a7 (K34_12 m c h5 h11) 0 3 4 5 6 7 8):=by
  refine Tq (D34 m c (pS1 (pB (pS1 c34_12))) (D34 m c c34_14 (D34 m c c34_13 (a7 h11 0 3 4 5 6 7 8) (Qa 2 (a6 (Y0 m c h5) 0 3 4 5 6 7) (Qa 1 (a5 (Ya m c h5) 0 3 4 5 6) (Qa 0 (a2 (Xr m c) 4 5) nx)))) (Qa 3 (D34 m c c34_13 (a7 h11 0 3 4 5 6 7 8) (Qa 2 (a6 (Y0 m c h5) 0 3 4 5 6 7) (Qa 1 (a5 (Ya m c h5) 0 3 4 5 6) (Qa 0 (a2 (Xr m c) 4 5) nx)))) (Qa 2 (a6 (Y0 m c h5) 0 3 4 5 6 7) (Qa 1 (a5 (Ya m c h5) 0 3 4 5 6) (Qa 0 (a2 (Xr m c) 4 5) nx))))) (Qa 3 (D34 m c c34_13 (a7 h11 0 3 4 5 6 7 8) (Qa 2 (a6 (Y0 m c h5) 0 3 4 5 6 7) (Qa 1 (a5 (Ya m c h5) 0 3 4 5 6) (Qa 0 (a2 (Xr m c) 4 5) nx)))) (Qa 2 (a6 (Y0 m c h5) 0 3 4 5 6 7) (Qa 1 (a5 (Ya m c h5) 0 3 4 5 6) (Qa 0 (a2 (Xr m c) 4 5) nx))))) (by kernel_rfl) ?_
  rw [K34_13_eq m c h5 h11 ,K34_14_eq m c h5 h11 ]
  kernel_rfl
noncomputable def L34_11_b (m:Nat) (c:Qd) (h5:AV→AV→AV→AV→AV→Kt) (h11:AV→AV→AV→AV→AV→AV→AV→Kt) (t0 t3 t4 t5 t6 t7 t8:AV):Kt:=
 bnd (Qh (C m) 24 t3 15) fun v0=>
 bnd (ldO (C m) 3 v0) fun v1=>
 bnd (Qi (C m) .lss 3 t8 v1) fun v2=>
 ifB v2
 ((K34_12 m c h5 h11 t0 t3 t4 t5 t6 t7 t8))
 ((Y0 m c h5 t0 t3 t4 t5 t6 t7))
noncomputable def L34_11 (m:Nat) (c:Qd) (h5:AV→AV→AV→AV→AV→Kt) (n:Nat):AV→AV→AV→AV→AV→AV→AV→Kt:=
 Nat.rec (motive:=fun _=>AV→AV→AV→AV→AV→AV→AV→Kt) (fun t0 t3 t4 t5 t6 t7 t8=>noK) (fun _ ih=>L34_11_b m c h5 ih) n
theorem L34_11_b_eq (h5:AV→AV→AV→AV→AV→Kt) (h11:AV→AV→AV→AV→AV→AV→AV→Kt):D34 m c c34_11 (a7 h11 0 3 4 5 6 7 8) (Qa 2 (a6 (Y0 m c h5) 0 3 4 5 6 7) (Qa 1 (a5 (Ya m c h5) 0 3 4 5 6) (Qa 0 (a2 (Xr m c) 4 5) nx))) = fun e=>L34_11_b m c h5 h11 (e 0) (e 3) (e 4) (e 5) (e 6) (e 7) (e 8):=by
  refine Tq (D34 m c (pS1 (pS1 c34_11)) (fun e=>ifB (e 22) ((D34 m c c34_12 (a7 h11 0 3 4 5 6 7 8) (Qa 2 (a6 (Y0 m c h5) 0 3 4 5 6 7) (Qa 1 (a5 (Ya m c h5) 0 3 4 5 6) (Qa 0 (a2 (Xr m c) 4 5) nx)))) e) ((a6 (Y0 m c h5) 0 3 4 5 6 7) e)) (Qa 2 (a6 (Y0 m c h5) 0 3 4 5 6 7) (Qa 1 (a5 (Ya m c h5) 0 3 4 5 6) (Qa 0 (a2 (Xr m c) 4 5) nx)))) (by kernel_rfl) ?_
  rw [K34_12_eq m c h5 h11 ]
  kernel_rfl
theorem L34_11_eq (h5:AV→AV→AV→AV→AV→Kt) (n:Nat):(Qn (fun k=>D34 m c c34_11 k (Qa 2 (a6 (Y0 m c h5) 0 3 4 5 6 7) (Qa 1 (a5 (Ya m c h5) 0 3 4 5 6) (Qa 0 (a2 (Xr m c) 4 5) nx)))) n) = (a7 (L34_11 m c h5 n) 0 3 4 5 6 7 8):=by
  induction n with
  | zero=>rfl
  | succ n ih=>
    show D34 m c c34_11 (Qn (fun k=>D34 m c c34_11 k (Qa 2 (a6 (Y0 m c h5) 0 3 4 5 6 7) (Qa 1 (a5 (Ya m c h5) 0 3 4 5 6) (Qa 0 (a2 (Xr m c) 4 5) nx)))) n) (Qa 2 (a6 (Y0 m c h5) 0 3 4 5 6 7) (Qa 1 (a5 (Ya m c h5) 0 3 4 5 6) (Qa 0 (a2 (Xr m c) 4 5) nx))) = _
    rw [ih,L34_11_b_eq m c h5 (L34_11 m c h5 n)]
    rfl
theorem L34_11_succ (h5:AV→AV→AV→AV→AV→Kt) (n:Nat):L34_11 m c h5 (n + 1) = L34_11_b m c h5 (L34_11 m c h5 n):=rfl
noncomputable def K34_10 (m:Nat) (c:Qd) (h5:AV→AV→AV→AV→AV→Kt) (t0 t3 t4 t5 t6 t7 t8:AV):Kt:=
 L34_11 m c h5 m t0 t3 t4 t5 t6 t7 t8
theorem K34_10_eq (h5:AV→AV→AV→AV→AV→Kt):D34 m c c34_10 (a6 (Y0 m c h5) 0 3 4 5 6 7) (Qa 1 (a5 (Ya m c h5) 0 3 4 5 6) (Qa 0 (a2 (Xr m c) 4 5) nx)) = (a7 (K34_10 m c h5) 0 3 4 5 6 7 8):=by
  refine Tq (Qn (fun k=>D34 m c c34_11 k (Qa 2 (a6 (Y0 m c h5) 0 3 4 5 6 7) (Qa 1 (a5 (Ya m c h5) 0 3 4 5 6) (Qa 0 (a2 (Xr m c) 4 5) nx)))) m) (by kernel_rfl) ?_
  rw [L34_11_eq m c h5 m]
  kernel_rfl
noncomputable def K34_8 (m:Nat) (c:Qd) (h5:AV→AV→AV→AV→AV→Kt) (t0 t3 t4 t5 t6 t7:AV):Kt:=
 K34_10 m c h5 t0 t3 t4 t5 t6 t7 (I 0)
theorem K34_8_eq (h5:AV→AV→AV→AV→AV→Kt):D34 m c c34_8 (a5 (Ya m c h5) 0 3 4 5 6) (Qa 1 (a5 (Ya m c h5) 0 3 4 5 6) (Qa 0 (a2 (Xr m c) 4 5) nx)) = (a6 (K34_8 m c h5) 0 3 4 5 6 7):=by
  refine Tq (D34 m c (pS1 (pS1 c34_8)) (D34 m c c34_10 (D34 m c c34_9 (a5 (Ya m c h5) 0 3 4 5 6) (Qa 1 (a5 (Ya m c h5) 0 3 4 5 6) (Qa 0 (a2 (Xr m c) 4 5) nx))) (Qa 1 (a5 (Ya m c h5) 0 3 4 5 6) (Qa 0 (a2 (Xr m c) 4 5) nx))) (Qa 1 (a5 (Ya m c h5) 0 3 4 5 6) (Qa 0 (a2 (Xr m c) 4 5) nx))) (by kernel_rfl) ?_
  rw [K34_9_eq m c h5 ,K34_10_eq m c h5 ]
  kernel_rfl
noncomputable def K34_6 (m:Nat) (c:Qd) (h5:AV→AV→AV→AV→AV→Kt) (t0 t3 t4 t5 t6:AV):Kt:=
 K34_8 m c h5 t0 t3 t4 t5 t6 NS
theorem K34_6_eq (h5:AV→AV→AV→AV→AV→Kt):D34 m c c34_6 (a5 h5 0 3 4 5 6) (Qa 0 (a2 (Xr m c) 4 5) nx) = (a5 (K34_6 m c h5) 0 3 4 5 6):=by
  refine Tq (D34 m c (pS1 (pB (pS1 c34_6))) (D34 m c c34_8 (D34 m c c34_7 (a5 h5 0 3 4 5 6) (Qa 0 (a2 (Xr m c) 4 5) nx)) (Qa 1 (D34 m c c34_7 (a5 h5 0 3 4 5 6) (Qa 0 (a2 (Xr m c) 4 5) nx)) (Qa 0 (a2 (Xr m c) 4 5) nx))) (Qa 1 (D34 m c c34_7 (a5 h5 0 3 4 5 6) (Qa 0 (a2 (Xr m c) 4 5) nx)) (Qa 0 (a2 (Xr m c) 4 5) nx))) (by kernel_rfl) ?_
  rw [K34_7_eq m c h5 ,K34_8_eq m c h5 ]
  kernel_rfl
noncomputable def L34_5_b (m:Nat) (c:Qd) (h5:AV→AV→AV→AV→AV→Kt) (t0 t3 t4 t5 t6:AV):Kt:=
 bnd (Qh (C m) 24 t3 14) fun v0=>
 bnd (ldO (C m) 3 v0) fun v1=>
 bnd (Qi (C m) .lss 3 t6 v1) fun v2=>
 ifB v2
 ((K34_6 m c h5 t0 t3 t4 t5 t6))
 ((Xr m c t4 t5))
noncomputable def L34_5 (m:Nat) (c:Qd) (n:Nat):AV→AV→AV→AV→AV→Kt:=
 Nat.rec (motive:=fun _=>AV→AV→AV→AV→AV→Kt) (fun t0 t3 t4 t5 t6=>noK) (fun _ ih=>L34_5_b m c ih) n
theorem L34_5_b_eq (h5:AV→AV→AV→AV→AV→Kt):D34 m c c34_5 (a5 h5 0 3 4 5 6) (Qa 0 (a2 (Xr m c) 4 5) nx) = fun e=>L34_5_b m c h5 (e 0) (e 3) (e 4) (e 5) (e 6):=by
  refine Tq (D34 m c (pS1 (pS1 c34_5)) (fun e=>ifB (e 16) ((D34 m c c34_6 (a5 h5 0 3 4 5 6) (Qa 0 (a2 (Xr m c) 4 5) nx)) e) ((a2 (Xr m c) 4 5) e)) (Qa 0 (a2 (Xr m c) 4 5) nx)) (by kernel_rfl) ?_
  rw [K34_6_eq m c h5 ]
  kernel_rfl
theorem L34_5_eq (n:Nat):(Qn (fun k=>D34 m c c34_5 k (Qa 0 (a2 (Xr m c) 4 5) nx)) n) = (a5 (L34_5 m c n) 0 3 4 5 6):=by
  induction n with
  | zero=>rfl
  | succ n ih=>
    show D34 m c c34_5 (Qn (fun k=>D34 m c c34_5 k (Qa 0 (a2 (Xr m c) 4 5) nx)) n) (Qa 0 (a2 (Xr m c) 4 5) nx) = _
    rw [ih,L34_5_b_eq m c (L34_5 m c n)]
    rfl
theorem L34_5_succ (n:Nat):L34_5 m c (n + 1) = L34_5_b m c (L34_5 m c n):=rfl
noncomputable def K34_4 (m:Nat) (c:Qd) (t0 t3 t4 t5 t6:AV):Kt:=
 L34_5 m c m t0 t3 t4 t5 t6
theorem K34_4_eq:D34 m c c34_4 (a2 (Xr m c) 4 5) nx = (a5 (K34_4 m c) 0 3 4 5 6):=by
  refine Tq (Qn (fun k=>D34 m c c34_5 k (Qa 0 (a2 (Xr m c) 4 5) nx)) m) (by kernel_rfl) ?_
  rw [L34_5_eq m c m]
  kernel_rfl
noncomputable def K34_2 (m:Nat) (c:Qd) (t0 t3 t4 t5:AV):Kt:=
 K34_4 m c t0 t3 t4 t5 (I 0)
theorem K34_2_eq:D34 m c c34_2 (Z34 m) nx = (a4 (K34_2 m c) 0 3 4 5):=by
  refine Tq (D34 m c (pS1 (pS1 c34_2)) (D34 m c c34_4 (D34 m c c34_3 (Z34 m) nx) nx) nx) (by kernel_rfl) ?_
  rw [K34_3_eq m c ,K34_4_eq m c ]
  kernel_rfl
noncomputable def K34_1 (m:Nat) (c:Qd) (t0 t3 t4:AV):Kt:=
 bnd (Xp (C m) 64 [(0,t0)]) fun v0=>
 bnd (Xe (C m) 64) fun v1=>
 bnd (stO (C m) 64 v1 v0) fun _=>
 K34_2 m c t0 t3 t4 v1
theorem K34_1_eq:D34 m c c34_1 (Z34 m) nx = (a3 (K34_1 m c) 0 3 4):=by
  refine Tq (D34 m c (pS1 c34_1) (D34 m c c34_2 (Z34 m) nx) nx) (by kernel_rfl) ?_
  rw [K34_2_eq m c ]
  kernel_rfl
noncomputable def K34_0 (m:Nat) (c:Qd) (t0 t1:AV):Kt:=
 bnd (Z2 24 t1) fun v0=>
 bnd (Xe (C m) 64) fun v1=>
 K34_1 m c t0 v0 v1
theorem K34_0_eq:D34 m c c34_0 (Z34 m) nx = (a2 (K34_0 m c) 0 1):=by
  refine Tq (D34 m c (pS1 c34_0) (D34 m c c34_1 (Z34 m) nx) nx) (by kernel_rfl) ?_
  rw [K34_1_eq m c ]
  kernel_rfl
theorem F34_eq (t0 t1:AV):Qu (C m) c Tryz.f34 [t0,t1] = K34_0 m c t0 t1:=by
  refine Tq ((D34 m c c34_0 (Z34 m) nx) (Xl [t0,t1])) (by kernel_rfl) ?_
  rw [K34_0_eq m c]
  rfl
noncomputable def c3_0:Code:=(Qw Tryz.f3)
noncomputable def c3_1:Code:=(pS2 c3_0)
noncomputable def Z3 (m:Nat):=fun (e:Nat→AV)=>Qo (C m) (Xh e Tryz.f3.results.toList)
noncomputable def D3 (m:Nat) (c:Qd) (p:Code) (k:TE→Kt) (x:Nat→TE→Kt):=Q2 p (C m) c k x (Z3 m)
noncomputable def K3_1 (m:Nat) (c:Qd) (t1:AV):Kt:=
 bnd (ldO (C m) 24 t1) fun v0=>
 bnd (Qy (C m) c (fnV 4) [v0]) fun v1=>
 bnd (Vz v1 0) fun v2=>
 bnd (Vz v1 1) fun v3=>
 bnd (Xe (C m) 45) fun v4=>
 bnd (stO (C m) 45 v4 v2) fun _=>
 bnd (ldO (C m) 24 t1) fun v5=>
 bnd (Qy (C m) c (fnV 5) [v5]) fun v6=>
 bnd (unO .not v6) fun v7=>
 ifB v7
 ((bnd (Qi (C m) .eql 46 v3 (I 1)) fun v8=>
 bnd (gdO (Qc v8 true) (ldO (C m) 45 v4)) fun v9=>
 bnd (gdO (Qc v8 true) (Qy (C m) c (fnV 7) [v9])) fun v10=>
 bnd (gdO (Qc v8 true) (Xp (C m) 66 [])) fun v11=>
 bnd (gdO (Qc v8 true) (Qy (C m) c (fnV 6) [v10,v11])) fun v12=>
 bnd (Qm v8 v12 (B false)) fun v13=>
 bnd (gdO (Qc v13 true) (Qy (C m) c (fnV 8) [])) fun v14=>
 bnd (Qm v13 v14 (B false)) fun v15=>
 Qo (C m) [(none,v15)]))
 ((dIn fun sv16=>
 Qk (Qi (C m) .eql 46 v3 (I 0)) fun v17=>
 Qr (gdO (Qc v17 true) (ldO (C m) 45 v4)) fun v18=>
 Xn (gdO (Qc v17 true) (Qy (C m) c (fnV 9) [v18])) fun v19 sv19=>
 Qk (Qm v17 v19 (B false)) fun v20=>
 Qr (gdO (Qc v20 true) (ldO (C m) 45 v4)) fun v21=>
 Xn (gdO (Qc v20 true) (Qy (C m) c (fnV 7) [v21])) fun v22 sv22=>
 Ze ((Qc v20 true)) (ldO (C m) 24 t1) (fun v23=>(Xk (ldO (C m) 24 t1) v23 sv22 && (Xk (ldO (C m) 24 t1) v23 sv19 && true))) fun v24=>
 Xn (gdO (Qc v20 true) (Qy (C m) c (fnV 10) [v24])) fun v25 sv25=>
 Xn (gdO (Qc v20 true) (Qy (C m) c (fnV 6) [v22,v25])) fun v26 sv26=>
 Qk (Qm v20 v26 (B false)) fun v27=>
 Xn (gdO (Qc v27 true) (Qy (C m) c (fnV 8) [])) fun v28 sv28=>
 Qk (Qm v27 v28 (B false)) fun v29=>
 Qo (C m) [(none,v29)]))
theorem K3_1_eq:D3 m c c3_1 (Z3 m) nx = (a1 (K3_1 m c) 1):=by
  refine Tq (D3 m c (pS1 c3_1) (D3 m c (pS1 (pS1 (pS2 c3_1))) (fun e=>ifB (e 12) ((D3 m c (pS1 (pC1 (pS2 (pS1 (pS2 c3_1))))) (Z3 m) nx) e) ((D3 m c (pS1 (pS2 (pS2 c3_1))) (Z3 m) nx) e)) nx) nx) (by kernel_rfl) ?_
  kernel_rfl
noncomputable def K3_0 (m:Nat) (c:Qd) (t0:AV):Kt:=
 bnd (Z2 24 t0) fun v0=>
 K3_1 m c v0
theorem K3_0_eq:D3 m c c3_0 (Z3 m) nx = (a1 (K3_0 m c) 0):=by
  refine Tq (D3 m c (pS1 c3_0) (D3 m c c3_1 (Z3 m) nx) nx) (by kernel_rfl) ?_
  rw [K3_1_eq m c ]
  kernel_rfl
theorem F3_eq (t0:AV):Qu (C m) c Tryz.f3 [t0] = K3_0 m c t0:=by
  refine Tq ((D3 m c c3_0 (Z3 m) nx) (Xl [t0])) (by kernel_rfl) ?_
  rw [K3_0_eq m c]
  rfl
end Go.Proofs.YtjfgdcegpgoobaaGreatDoor
namespace Go.Proofs.YtjfgdcegpgoobaaGreatDoor
open Go.Run
set_option maxRecDepth 100000
open Go
variable (m:Nat) (c:Qd)
noncomputable def c8_0:Code:=(Qw Tryz.f8)
noncomputable def c8_1:Code:=(pS2 c8_0)
noncomputable def c8_2:Code:=(pS2 c8_1)
noncomputable def Z8 (m:Nat):=fun (e:Nat→AV)=>Qo (C m) (Xh e Tryz.f8.results.toList)
noncomputable def D8 (m:Nat) (c:Qd) (p:Code) (k:TE→Kt) (x:Nat→TE→Kt):=Q2 p (C m) c k x (Z8 m)
noncomputable def K8_2 (m:Nat) (c:Qd) (t1 t2:AV):Kt:=
 bnd (ldO (C m) 45 t1) fun v0=>
 bnd (Qy (C m) c (fnV 23) [v0,(S [115,104,111,114,116])]) fun v1=>
 bnd (Vz v1 0) fun v2=>
 bnd (Vz v1 1) fun v3=>
 bnd (Xe (C m) 45) fun v4=>
 bnd (stO (C m) 45 v4 v2) fun _=>
 bnd (ldO (C m) 45 v4) fun v5=>
 bnd (Qy (C m) c (fnV 24) [v5]) fun v6=>
 bnd (Vz v6 0) fun v7=>
 bnd (Vz v6 1) fun v8=>
 bnd (Qy (C m) c (fnV 22) []) fun v9=>
 bnd (Qy (C m) c (fnV 25) [v9,v7]) fun v10=>
 bnd (Vz v10 0) fun v11=>
 bnd (Vz v10 1) fun v12=>
 bnd (Xe (C m) 45) fun v13=>
 bnd (stO (C m) 45 v13 v11) fun _=>
 bnd (Qi (C m) .eql 46 t2 (I 0)) fun v14=>
 bnd (gdO (Qc v14 true) (fun _=>.val v3)) fun v15=>
 bnd (gdO (Qc v14 true) (Qi (C m) .eql 46 v15 (I 2))) fun v16=>
 bnd (Qm v14 v16 (B false)) fun v17=>
 bnd (gdO (Qc v17 true) (Qh (C m) 45 v4 3)) fun v18=>
 bnd (gdO (Qc v17 true) (ldO (C m) 25 v18)) fun v19=>
 bnd (gdO (Qc v17 true) (Qv (C m) .len [25] [v19])) fun v20=>
 bnd (gdO (Qc v17 true) (Qi (C m) .eql 3 v20 (I 18))) fun v21=>
 bnd (Qm v17 v21 (B false)) fun v22=>
 bnd (gdO (Qc v22 true) (Qh (C m) 45 v4 3)) fun v23=>
 bnd (gdO (Qc v22 true) (ldO (C m) 25 v23)) fun v24=>
 bnd (gdO (Qc v22 true) (Q9 (C m) 25 v24 (I 2))) fun v25=>
 bnd (gdO (Qc v22 true) (ldO (C m) 3 v25)) fun v26=>
 bnd (gdO (Qc v22 true) (Qi (C m) .eql 3 v26 (I 1))) fun v27=>
 bnd (Qm v22 v27 (B false)) fun v28=>
 bnd (gdO (Qc v28 true) (fun _=>.val v8)) fun v29=>
 bnd (gdO (Qc v28 true) (Qi (C m) .eql 46 v29 (I 0))) fun v30=>
 bnd (Qm v28 v30 (B false)) fun v31=>
 bnd (gdO (Qc v31 true) (fun _=>.val v7)) fun v32=>
 bnd (gdO (Qc v31 true) (Qv (C m) .len [9] [v32])) fun v33=>
 bnd (gdO (Qc v31 true) (Qi (C m) .gtr 3 v33 (I 120))) fun v34=>
 bnd (Qm v31 v34 (B false)) fun v35=>
 bnd (gdO (Qc v35 true) (Qh (C m) 45 v13 3)) fun v36=>
 bnd (gdO (Qc v35 true) (ldO (C m) 25 v36)) fun v37=>
 bnd (gdO (Qc v35 true) (Qv (C m) .len [25] [v37])) fun v38=>
 bnd (gdO (Qc v35 true) (Qi (C m) .eql 3 v38 (I 18))) fun v39=>
 bnd (Qm v35 v39 (B false)) fun v40=>
 bnd (gdO (Qc v40 true) (Qh (C m) 45 v13 3)) fun v41=>
 bnd (gdO (Qc v40 true) (ldO (C m) 25 v41)) fun v42=>
 bnd (gdO (Qc v40 true) (Q9 (C m) 25 v42 (I 2))) fun v43=>
 bnd (gdO (Qc v40 true) (ldO (C m) 3 v43)) fun v44=>
 bnd (gdO (Qc v40 true) (Qi (C m) .eql 3 v44 (I 1))) fun v45=>
 bnd (Qm v40 v45 (B false)) fun v46=>
 bnd (gdO (Qc v46 true) (fun _=>.val v12)) fun v47=>
 bnd (gdO (Qc v46 true) (Qi (C m) .eql 46 v47 (I 0))) fun v48=>
 bnd (Qm v46 v48 (B false)) fun v49=>
 Qo (C m) [(none,v49)]
theorem K8_2_eq:D8 m c c8_2 (Z8 m) nx = (a2 (K8_2 m c) 1 2):=by
  refine Tq (D8 m c (pS1 c8_2) (D8 m c (pS1 (pS2 c8_2)) (D8 m c (pS1 (pS2 (pS2 c8_2))) (D8 m c (pS1 (pS2 (pS2 (pS2 c8_2)))) (Z8 m) nx) nx) nx) nx) (by kernel_rfl) ?_
  kernel_rfl
noncomputable def K8_1 (m:Nat) (c:Qd):Kt:=
 bnd (Qy (C m) c (fnV 22) []) fun v0=>
 bnd (Qy (C m) c (fnV 4) [v0]) fun v1=>
 bnd (Vz v1 0) fun v2=>
 bnd (Vz v1 1) fun v3=>
 bnd (Xe (C m) 45) fun v4=>
 bnd (stO (C m) 45 v4 v2) fun _=>
 K8_2 m c v4 v3
theorem K8_1_eq:D8 m c c8_1 (Z8 m) nx = (a0 (K8_1 m c)):=by
  refine Tq (D8 m c (pS1 c8_1) (D8 m c c8_2 (Z8 m) nx) nx) (by kernel_rfl) ?_
  rw [K8_2_eq m c ]
  first | done | (show _ = _; kernel_rfl)
noncomputable def K8_0 (m:Nat) (c:Qd):Kt:=
 K8_1 m c
theorem K8_0_eq:D8 m c c8_0 (Z8 m) nx = (a0 (K8_0 m c)):=by
  refine Tq (D8 m c (pS1 c8_0) (D8 m c c8_1 (Z8 m) nx) nx) (by kernel_rfl) ?_
  rw [K8_1_eq m c ]
  first | done | (show _ = _; kernel_rfl)
theorem F8_eq:Qu (C m) c Tryz.f8 [] = K8_0 m c :=by
  refine Tq ((D8 m c c8_0 (Z8 m) nx) (Xl [])) (by kernel_rfl) ?_
  rw [K8_0_eq m c]
  first | done | rfl
noncomputable def c22_0:Code:=(Qw Tryz.f22)
noncomputable def Z22 (m:Nat):=fun (e:Nat→AV)=>Qo (C m) (Xh e Tryz.f22.results.toList)
noncomputable def D22 (m:Nat) (c:Qd) (p:Code) (k:TE→Kt) (x:Nat→TE→Kt):=Q2 p (C m) c k x (Z22 m)
noncomputable def K22_0 (m:Nat) (c:Qd):Kt:=
 bnd (Xe (C m) 24) fun v0=>
 bnd (Xp (C m) 24 [(0,(Iu 7)),(1,(I 2)),(2,(I 2)),(3,(I 2)),(4,(I 1)),(5,(I 8)),(6,(I 32)),(7,(I 2)),(8,(I 2)),(9,(I 8)),(10,(I 2)),(11,(I 1)),(12,(I 8)),(13,(I 4)),(14,(I 1)),(15,(I 4)),(16,(I 2)),(17,(I 8))]) fun v1=>
 bnd (stO (C m) 24 v0 v1) fun _=>
 Qo (C m) [(some 24,v0)]
theorem K22_0_eq:D22 m c c22_0 (Z22 m) nx = (a0 (K22_0 m c)):=by
  refine Tq (D22 m c (pS1 c22_0) (D22 m c (pS1 (pS2 c22_0)) (Z22 m) nx) nx) (by kernel_rfl) ?_
  kernel_rfl
theorem F22_eq:Qu (C m) c Tryz.f22 [] = K22_0 m c :=by
  refine Tq ((D22 m c c22_0 (Z22 m) nx) (Xl [])) (by kernel_rfl) ?_
  rw [K22_0_eq m c]
  first | done | rfl
end Go.Proofs.YtjfgdcegpgoobaaGreatDoor
