/- awake answers true. -/
import Derived.Test.YtjfgdcegpgoobaaGreatDoorA1
import Derived.Test.YtjfgdcegpgoobaaGreatDoorA2
import Derived.Test.YtjfgdcegpgoobaaGreatDoorA3
import Derived.Test.YtjfgdcegpgoobaaGreatDoorA4
import Derived.Test.YtjfgdcegpgoobaaGreatDoorFx7
import Derived.Test.YtjfgdcegpgoobaaGreatDoorC3
import Derived.ProofKit
set_option linter.unusedVariables false
namespace Go.Proofs.YtjfgdcegpgoobaaGreatDoor
open Go.Run Go
namespace Aw
open Ty Core
set_option maxRecDepth 1000000
theorem ne24 {σ:St}:Xe (C Core.M) 24 σ = .new (.cells z24 24 true) (fun a=>P a 0):=by kernel_rfl
theorem ne45 {σ:St}:Xe (C Core.M) 45 σ = .new (.cells zB 45 true) (fun a=>P a 0):=by kernel_rfl
theorem dbl24 {σ:St}:Xp (C Core.M) 24 [(0,(Iu 7)),(1,(I 2)),(2,(I 2)),(3,(I 2)),(4,(I 1)),(5,(I 8)),(6,(I 32)),(7,(I 2)),(8,(I 2)),(9,(I 8)),(10,(I 2)),(11,(I 1)),(12,(I 8)),(13,(I 4)),(14,(I 1)),(15,(I 4)),(16,(I 2)),(17,(I 8))] σ = .val (.agg oneL):=by kernel_rfl
theorem one_run {n:Nat} {σ:St}:Ql (C Core.M) TR (n + 1) 22 [] σ = some (.agg oneL,one1 σ):=by
  refine Xf rfl Tryz.func22 (by kernel_rfl) ?_
  rw [F22_eq]
  refine Yl.eq ?_
  unfold K22_0
  refine Ye (ne24) ?_
  refine Qb (dbl24) ?_
  refine Yj (σ':=one1 σ) (X1 (by rw [St.get_push,if_pos rfl]) rfl sz24 rfl rfl) ?_
  refine y_ret1 (Y7 (b:=.cells oneL 24 true) (by unfold one1; rw [St.get_put,if_pos rfl]) rfl ag24 sz24 rfl) ⟨rfl,rfl⟩
theorem seam_of {o:Option (AV × St)} {b:List CV} {v:AV} {k:Nat} {τ:St} (h:o.map (seam b) = some (v,k,τ)):∃ s,o = some (v,s)∧s.next = k∧(s.push (.cells zB 45 true)).put s.next (.cells b 45 true) = τ:=by
  obtain ⟨⟨v',s⟩,rfl,h2⟩:=Option.map_eq_some_iff.mp h
  unfold seam at h2
  cases h2
  exact ⟨s,rfl,rfl,rfl⟩
theorem lens:txt.length = 1224:=by kernel_rfl
theorem awake_yl:Yl (Ql (C Core.M) TR 501 8 [] σE) (fun v _=>v = B true):=by
  refine Q3 (n:=500) rfl Tryz.func8 (by kernel_rfl) ?_
  rw [F8_eq]
  unfold K8_0 K8_1
  obtain ⟨s1,c1,n1,h1⟩:=seam_of p1
  obtain ⟨s2,c2,n2,h2⟩:=seam_of p2
  obtain ⟨⟨v4,s4⟩,c4,h4⟩:=Option.map_eq_some_iff.mp p4
  have g1:a2S.get 128 = some (.cells B1L 45 true):=by rw [← h1,n1,St.get_put,if_pos rfl]
  have g2:a3S.get 384 = some (.cells B2L 45 true):=by rw [← h2,n2,St.get_put,if_pos rfl]
  injection h4 with q1 h4
  injection h4 with q2 h4
  injection h4 with q3 h4
  injection h4 with q4 q5
  have q1:v4 = .tup [.agg DL,I 0]:=q1
  subst q1
  have q2:s4.next = 1770:=q2
  have q3:s4.get 384 = some (.cells B2L 45 true):=q3
  have q4:s4.get 383 = some (rj false):=q4
  have q5:s4.get 1224 = some (rj true):=q5
  have push1:∀ (b:Blk),s1.push b = s1.push b:=fun _=>rfl
  refine Xs rfl (one_run (n:=499)) ?_
  refine Xs rfl (c1) ?_
  refine Qb (rfl) ?_
  refine Qb (rfl) ?_
  refine Ye (ne45) ?_
  refine Yj (σ':=a2S) (by rw [← h1]; exact X1 (by rw [St.get_push,if_pos rfl]) rfl sz45 rfl rfl) ?_
  rw [n1]
  unfold K8_2
  refine Qb (Xq g1 rfl (X2 ag45 sz45 rfl)) ?_
  refine Xs rfl (c2) ?_
  refine Qb (rfl) ?_
  refine Qb (rfl) ?_
  refine Ye (ne45) ?_
  refine Yj (σ':=a3S) (by rw [← h2]; exact X1 (by rw [St.get_push,if_pos rfl]) rfl sz45 rfl rfl) ?_
  rw [n2]
  refine Qb (Xq g2 rfl (X2 ag45 sz45 rfl)) ?_
  refine Xs rfl (p3) ?_
  refine Qb (rfl) ?_
  refine Qb (rfl) ?_
  refine Xs rfl (one_run (n:=499)) ?_
  refine Xs rfl (c4) ?_
  refine Qb (rfl) ?_
  refine Qb (rfl) ?_
  refine Ye (ne45) ?_
  obtain ⟨s5,h5⟩:∃ s,(s4.push (.cells zB 45 true)).put s4.next (.cells DL 45 true) = s:=⟨_,rfl⟩
  refine Yj (σ':=s5) (by rw [← h5]; exact X1 (by rw [St.get_push,if_pos rfl]) rfl sz45 rfl rfl) ?_
  rw [q2] at h5 ⊢
  have old:∀ i,i < 1770→s5.get i = s4.get i:=fun i hi=>by rw [← h5,St.get_put,if_neg (by omega),St.get_push,if_neg (by omega)]
  have g5:s5.get 1770 = some (.cells DL 45 true):=by rw [← h5,St.get_put,if_pos rfl]
  have g3:=(old 384 (by omega)).trans q3
  have g4:=(old 383 (by omega)).trans q4
  have g6:=(old 1224 (by omega)).trans q5
  have n5:s5.next = 1771:=by rw [← h5,St.next_put,St.next_push,q2]
  have a3:At s5 384 0 B2L:=⟨by omega,Lies.of g3⟩
  have a5:At s5 1770 0 DL:=⟨by omega,Lies.of g5⟩
  have hl:=lens
  refine Qb (J6 (by omega)) ?_
  refine Qb (Qe (rfl)) ?_
  refine Qb (Qe (J6 (by omega))) ?_
  refine Qb (rfl) ?_
  refine Qb (Qe (fa45_3)) ?_
  refine Qb (Qe (Qg a3.2 Ng rfl)) ?_
  refine Qb (Qe (o_len Vj)) ?_
  refine Qb (Qe (J6 rfl)) ?_
  refine Qb (rfl) ?_
  refine Qb (Qe (fa45_3)) ?_
  refine Qb (Qe (Qg a3.2 Ng rfl)) ?_
  refine Qb (Qe (o_iad (j:=2) Vj sz3 (by decide))) ?_
  refine Qb (Qe (Xq g4 rfl (Qq ag3 rfl))) ?_
  refine Qb (Qe (J6 rfl)) ?_
  refine Qb (rfl) ?_
  refine Qb (Qe (rfl)) ?_
  refine Qb (Qe (J6 (by omega))) ?_
  refine Qb (rfl) ?_
  refine Qb (Qe (rfl)) ?_
  refine Qb (Qe (o_slen un9)) ?_
  refine Qb (Qe (k_gtrT (by omega))) ?_
  refine Qb (rfl) ?_
  refine Qb (Qe (fa45_3)) ?_
  refine Qb (Qe (Qg a5.2 Ng rfl)) ?_
  refine Qb (Qe (o_len Vj)) ?_
  refine Qb (Qe (J6 rfl)) ?_
  refine Qb (rfl) ?_
  refine Qb (Qe (fa45_3)) ?_
  refine Qb (Qe (Qg a5.2 Ng rfl)) ?_
  refine Qb (Qe (o_iad (j:=2) Vj sz3 (by decide))) ?_
  refine Qb (Qe (Xq g6 rfl (Qq ag3 rfl))) ?_
  refine Qb (Qe (J6 rfl)) ?_
  refine Qb (rfl) ?_
  refine Qb (Qe (rfl)) ?_
  refine Qb (Qe (J6 (by omega))) ?_
  refine Qb (rfl) ?_
  exact Qs rfl
theorem awT_ok:TabOk (C Core.M) TT:=TabOk.flat hx mixed hg (tabOk_none _) TR_ok fun args v h=>by
  unfold awSpec at h
  split at h
  · cases h
    obtain ⟨v,s,h1,rfl⟩:=awake_yl
    exact ⟨rfl,rfl,501,s,h1⟩
  · cases h
end Aw
end Go.Proofs.YtjfgdcegpgoobaaGreatDoor
namespace Go.Proofs.YtjfgdcegpgoobaaGreatDoor
open Go.Run Go
namespace Core
set_option maxRecDepth 1000000
theorem law_run {a0 a1 a2 a3 a4 a5 a6 a7 a8 a9 a10 a11 a12 a13 a14 a15 a16 a17:Int} (h:0≤a0∧a0 < 18446744073709551616):Yl (Ql (C 1000000) TT 12 3 [.agg [.int .u64 a0,.int .i64 a1,.int .i64 a2,.int .i64 a3,.int .i64 a4,.int .i64 a5,.int .i64 a6,.int .i64 a7,.int .i64 a8,.int .i64 a9,.int .i64 a10,.int .i64 a11,.int .i64 a12,.int .i64 a13,.int .i64 a14,.int .i64 a15,.int .i64 a16,.int .i64 a17]] σE) (fun v _=>v = B true):=by
  obtain ⟨s,rfl⟩:∃ s:Nat,a0 = (s:Int):=⟨a0.toNat,by omega⟩
  exact news_run (n:=0) (c:=⟨s,a1,a2,a3,a4,a5,a6,a7,a8,a9,a10,a11,a12,a13,a14,a15,a16,a17⟩) (by show s < _; omega)
end Core
end Go.Proofs.YtjfgdcegpgoobaaGreatDoor
