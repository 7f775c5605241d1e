/- The document's comparisons: what stands for the same is told the same. -/
import Derived.Test.YtjfgdcegpgoobaaGreatDoorC1
import Derived.Test.YtjfgdcegpgoobaaGreatDoorFx4
import Derived.Test.YtjfgdcegpgoobaaGreatDoorFx5
import Derived.Test.YtjfgdcegpgoobaaGreatDoorFx6
set_option linter.unusedVariables false
namespace Go.Proofs.YtjfgdcegpgoobaaGreatDoor
open Go.Run Go
namespace Core
open Ty
set_option maxRecDepth 1000000
theorem Qp {α:Type} {l:List α} {f:α→List DV} {σ σ':St} {ok:Nat→Prop} {t e':TypeId} {ts:List TypeId} {sz:Nat} {cv:CV} (hu:und (C M) t = some (.slice e')) (h:Rep ok σ cv (.sl sz (l.map f))):Qv (C M) .len (t :: ts) [.one cv] σ' = .val (I (l.length:Nat)):=by
  rw [len_of hu h,List.length_map]
theorem Yq {α:Type} {l:List α} {f:α→List DV} {x:α} {σ:St} {ok:Nat→Prop} {t e':TypeId} {sz j:Nat} {cv:CV} (hu:und (C M) t = some (.slice e')) (hs:size (C M) e' = some sz) (h:Rep ok σ cv (.sl sz (l.map f))) (he:l[j]? = some x) :
    ∃ b k cs,(∀ σ',Q9 (C M) t (.one cv) (I (j:Nat)) σ' = .val (P b k))∧At σ b k cs∧RepL ok σ cs (f x)∧ok b:=by
  obtain ⟨b,k,cs,h1,h2,h3,h4,_⟩:=elem hu hs h (get_map he)
  exact ⟨b,k,cs,h1,h3,h4,h2⟩
theorem Xg {α:Type} {l:List α} {f:α→DV} {x:α} {σ:St} {ok:Nat→Prop} {t e':TypeId} {j:Nat} {cv:CV} (hu:und (C M) t = some (.slice e')) (hs:size (C M) e' = some 1) (h:Rep ok σ cv (.sl 1 (l.map fun y=>[f y]))) (he:l[j]? = some x) :
    ∃ b k c,(∀ σ',Q9 (C M) t (.one cv) (I (j:Nat)) σ' = .val (P b k))∧At σ b k [c]∧Rep ok σ c (f x)∧ok b:=by
  obtain ⟨b,k,cs,h1,h2,h3,h4⟩:=Yq hu hs h he
  obtain ⟨c,rfl,h5⟩:=rl1 h3
  exact ⟨b,k,c,h1,h2,h5,h4⟩
def Few {α:Type} (ll:List (List α)):Prop:=ll.length < 1000000∧∀ r ∈ ll,r.length < 1000000
theorem same_rows {n:Nat} {σ:St} {tab:Tab} (ht:Fr tab) {ok1 ok2:Nat→Prop} {a b:CV} {ll:List (List Int)} (ha:Rep ok1 σ a (V1 ll)) (hb:Rep ok2 σ b (V1 ll)) (hf:Few ll) :
    Ql (C M) tab (n + 1) 88 [.one a,.one b] σ = some (B true,σ):=by
  refine Xf (ht _ rfl) Tryz.func88 (by kernel_rfl) ?_
  rw [F88_eq]
  refine Yl.eq ?_
  unfold K88_0
  have h1:=hf.1
  unfold K88_1
  refine Qb (Qp Jj (ha)) ?_
  refine Qb (Qp Jj (hb)) ?_
  refine Qb (Xd (by omega)) ?_
  refine Qx (rfl) ?_
  unfold K88_2 K88_4
  refine Yb (L:=fun f j σ=>L88_5 M (Ql (C M) tab n) f (.one a) (.one b) (I (j:Nat)) σ) (n:=ll.length) (fun _ σ'=>σ' = σ) (fun f j σ' hj hi hk=>?_) (fun f σ' hi=>?_) 0 M σ (by omega) (by unfold M; omega) rfl
  · subst hi
    rw [L88_5_succ]
    obtain ⟨r,hr⟩:=Q6 hj
    obtain ⟨b1,k1,x1,i1,a1,r1,_⟩:=Xg Jj sz25 ha hr
    obtain ⟨b2,k2,x2,i2,a2,r2,_⟩:=Xg Jj sz25 hb hr
    have h2:=hf.2 r (List.mem_of_getElem? hr)
    unfold L88_5_b
    refine Qb (Qp Jj (ha)) ?_
    refine Qb (Xi (by omega)) ?_
    refine Xc (rfl) ?_
    unfold K88_6
    refine X0 ?_
    refine Qf (i1 _) ?_
    refine Qj (Q8 a1.2 Ng rfl) rfl ?_
    refine Qj (Qp Vj (r1)) rfl ?_
    refine Qf (i2 _) ?_
    refine Qj (Q8 a2.2 Ng rfl) rfl ?_
    refine Qj (Qp Vj (r2)) rfl ?_
    refine Qf (Xd (by omega)) ?_
    refine Qx (rfl) ?_
    unfold K88_8 K88_9
    refine Yb (L:=fun f' i σ=>L88_10 M (Ql (C M) tab n) (L88_5 M (Ql (C M) tab n) f) f' (.one a) (.one b) (I (j:Nat)) (I (i:Nat)) σ) (n:=r.length) (fun _ s=>s = σ') (fun f' i s hi' hs hk'=>?_) (fun f' s hs=>?_) 0 M σ' (by omega) (by unfold M; omega) rfl
    · subst hs
      rw [L88_10_succ]
      obtain ⟨z,hz⟩:=Q6 hi'
      obtain ⟨b3,k3,x3,i3,a3,r3,_⟩:=Xg Vj sz3 r1 hz
      obtain ⟨b4,k4,x4,i4,a4,r4,_⟩:=Xg Vj sz3 r2 hz
      obtain rfl:=r3.of_flat
      obtain rfl:=r4.of_flat
      unfold L88_10_b
      refine Qb (i1 _) ?_
      refine Qb (Q8 a1.2 Ng rfl) ?_
      refine Qb (Qp Vj (r1)) ?_
      refine Qb (Xi (by omega)) ?_
      refine Xc (rfl) ?_
      unfold K88_11
      refine X0 ?_
      refine Qf (i1 _) ?_
      refine Qj (Q8 a1.2 Ng rfl) rfl ?_
      refine Qf (i3 _) ?_
      refine Qj (Q8 a3.2 ag3 rfl) rfl ?_
      refine Qf (i2 _) ?_
      refine Qj (Q8 a2.2 Ng rfl) rfl ?_
      refine Qf (i4 _) ?_
      refine Qj (Q8 a4.2 ag3 rfl) rfl ?_
      refine Qf (Xd (by omega)) ?_
      refine Qx (rfl) ?_
      unfold K88_12
      refine Qb (Xy (by omega)) ?_
      exact hk' _ rfl
    · subst hs
      rw [L88_10_succ]
      unfold L88_10_b
      refine Qb (i1 _) ?_
      refine Qb (Q8 a1.2 Ng rfl) ?_
      refine Qb (Qp Vj (r1)) ?_
      refine Qb (Q4 (by omega)) ?_
      refine Qx (rfl) ?_
      unfold Ys
      refine Qb (Xy (by omega)) ?_
      exact hk _ rfl
  · subst hi
    rw [L88_5_succ]
    unfold L88_5_b
    refine Qb (Qp Jj (ha)) ?_
    refine Qb (Q4 (by omega)) ?_
    refine Qx (rfl) ?_
    unfold Yr
    exact Qs ⟨rfl,rfl⟩
theorem eq11 {n:Nat} {σ:St} {tab:Tab} (ht:Fr tab) {ok1 ok2:Nat→Prop} {ca cb:List CV} {s:Nat} {m:Int} {ll:List (List Int)} (ha:RepL ok1 σ ca [dW s,dI m,V1 ll]) (hb:RepL ok2 σ cb [dW s,dI m,V1 ll]) (hf:Few ll) :
    Yl (Ql (C M) tab (n + 2) 43 [.agg ca,.agg cb] σ) (fun v σ'=>v = B true∧Gr σ σ'):=by
  obtain ⟨_,_,x,rfl,h1,h2,ra⟩:=rl3 ha
  obtain ⟨_,_,y,rfl,h3,h4,rb⟩:=rl3 hb
  obtain rfl:=h1.of_flat
  obtain rfl:=h2.of_flat
  obtain rfl:=h3.of_flat
  obtain rfl:=h4.of_flat
  refine Q3 (ht _ rfl) Tryz.func43 (by kernel_rfl) ?_
  rw [F43_eq]
  unfold K43_0
  refine Yn fun σ1 b1 e1 a1 _=>Yn fun σ2 b2 e2 a2 _=>?_
  have e:=e1.trans e2
  refine Qb (fa52_0) ?_
  refine Qb (Qg (a1.ext e2).2 Zf rfl) ?_
  refine Qb (fa52_0) ?_
  refine Qb (Qg a2.2 Zf rfl) ?_
  refine Qb (u_eqlT (by omega)) ?_
  refine Qb (Qe (fa52_1)) ?_
  refine Qb (Qe (Qg (a1.ext e2).2 ag3 rfl)) ?_
  refine Qb (Qe (fa52_1)) ?_
  refine Qb (Qe (Qg a2.2 ag3 rfl)) ?_
  refine Qb (Qe (J6 (by omega))) ?_
  refine Qb (rfl) ?_
  refine Qb (Qe (fa52_2)) ?_
  refine Qb (Qe (Qg (a1.ext e2).2 ag27 rfl)) ?_
  refine Qb (Qe (fa52_2)) ?_
  refine Qb (Qe (Qg a2.2 ag27 rfl)) ?_
  refine V8 rfl rfl (same_rows (n:=n) ht (ra.ext e) (rb.ext e) hf) ?_
  refine Qb (rfl) ?_
  exact Qs ⟨rfl,e⟩
theorem eq12 {n:Nat} {σ:St} {tab:Tab} (ht:Fr tab) {ok1 ok2:Nat→Prop} {ca cb:List CV} {s:Nat} {ll:List (List Int)} (ha:RepL ok1 σ ca [dW s,V1 ll]) (hb:RepL ok2 σ cb [dW s,V1 ll]) (hf:Few ll) :
    Yl (Ql (C M) tab (n + 2) 45 [.agg ca,.agg cb] σ) (fun v σ'=>v = B true∧Gr σ σ'):=by
  obtain ⟨_,x,rfl,h1,ra⟩:=rl2 ha
  obtain ⟨_,y,rfl,h3,rb⟩:=rl2 hb
  obtain rfl:=h1.of_flat
  obtain rfl:=h3.of_flat
  refine Q3 (ht _ rfl) Tryz.func45 (by kernel_rfl) ?_
  rw [F45_eq]
  unfold K45_0
  refine Yn fun σ1 b1 e1 a1 _=>Yn fun σ2 b2 e2 a2 _=>?_
  have e:=e1.trans e2
  refine Qb (fa104_0) ?_
  refine Qb (Qg (a1.ext e2).2 Zf rfl) ?_
  refine Qb (fa104_0) ?_
  refine Qb (Qg a2.2 Zf rfl) ?_
  refine Qb (u_eqlT (by omega)) ?_
  refine Qb (Qe (fa104_1)) ?_
  refine Qb (Qe (Qg (a1.ext e2).2 ag27 rfl)) ?_
  refine Qb (Qe (fa104_1)) ?_
  refine Qb (Qe (Qg a2.2 ag27 rfl)) ?_
  refine V8 rfl rfl (same_rows (n:=n) ht (ra.ext e) (rb.ext e) hf) ?_
  refine Qb (rfl) ?_
  exact Qs ⟨rfl,e⟩
theorem eq10 {n:Nat} {σ:St} {tab:Tab} (ht:Fr tab) {ok1 ok2:Nat→Prop} {ca cb:List CV} {s:Nat} {m:Int} {l:List Bool} (ha:RepL ok1 σ ca [dW s,dI m,Zk l]) (hb:RepL ok2 σ cb [dW s,dI m,Zk l]) (hf:l.length < 1000000) :
    Yl (Ql (C M) tab (n + 1) 44 [.agg ca,.agg cb] σ) (fun v σ'=>v = B true∧Gr σ σ'):=by
  obtain ⟨_,_,x,rfl,h1,h2,ra⟩:=rl3 ha
  obtain ⟨_,_,y,rfl,h3,h4,rb⟩:=rl3 hb
  obtain rfl:=h1.of_flat
  obtain rfl:=h2.of_flat
  obtain rfl:=h3.of_flat
  obtain rfl:=h4.of_flat
  refine Q3 (ht _ rfl) Tryz.func44 (by kernel_rfl) ?_
  rw [F44_eq]
  unfold K44_0
  refine Yn fun σ1 b1 e1 a1 _=>Yn fun σ2 b2 e2 a2 _=>?_
  have e:=e1.trans e2
  replace a1:=a1.ext e2
  replace ra:=ra.ext e
  replace rb:=rb.ext e
  unfold K44_1
  refine Qb (fa55_0) ?_
  refine Qb (Qg a1.2 Zf rfl) ?_
  refine Qb (fa55_0) ?_
  refine Qb (Qg a2.2 Zf rfl) ?_
  refine Qb (u_neqF (by omega)) ?_
  refine Qb (Qe (fa55_1)) ?_
  refine Qb (Qe (Qg a1.2 ag3 rfl)) ?_
  refine Qb (Qe (fa55_1)) ?_
  refine Qb (Qe (Qg a2.2 ag3 rfl)) ?_
  refine Qb (Qe (Xd (by omega))) ?_
  refine Qb (rfl) ?_
  refine Qb (Qe (fa55_2)) ?_
  refine Qb (Qe (Qg a1.2 ag32 rfl)) ?_
  refine Qb (Qe (Qp un32 (ra))) ?_
  refine Qb (Qe (fa55_2)) ?_
  refine Qb (Qe (Qg a2.2 ag32 rfl)) ?_
  refine Qb (Qe (Qp un32 (rb))) ?_
  refine Qb (Qe (Xd (by omega))) ?_
  refine Qb (rfl) ?_
  refine Qx (rfl) ?_
  unfold K44_2 K44_4
  refine Yb (L:=fun f j σ=>L44_5 M (Ql (C M) tab n) f (P b1 0) (P b2 0) (I (j:Nat)) σ) (n:=l.length) (fun _ s=>s = σ2) (fun f j σ' hj hi hk=>?_) (fun f σ' hi=>?_) 0 M σ2 (by omega) (by unfold M; omega) rfl
  · subst hi
    rw [L44_5_succ]
    obtain ⟨r,hr⟩:=Q6 hj
    obtain ⟨b3,k3,x3,i3,a3,r3,_⟩:=Xg un32 sz4 ra hr
    obtain ⟨b4,k4,x4,i4,a4,r4,_⟩:=Xg un32 sz4 rb hr
    obtain rfl:=r3.of_flat
    obtain rfl:=r4.of_flat
    unfold L44_5_b
    refine Qb (fa55_2) ?_
    refine Qb (Qg a1.2 ag32 rfl) ?_
    refine Qb (Qp un32 (ra)) ?_
    refine Qb (Xi (by omega)) ?_
    refine Xc (rfl) ?_
    unfold K44_6
    refine X0 ?_
    refine Qf (fa55_2) ?_
    refine Qj (Qg a1.2 ag32 rfl) rfl ?_
    refine Qf (i3 _) ?_
    refine Qj (Q8 a3.2 ag4 rfl) rfl ?_
    refine Qf (fa55_2) ?_
    refine Qj (Qg a2.2 ag32 rfl) rfl ?_
    refine Qf (i4 _) ?_
    refine Qj (Q8 a4.2 ag4 rfl) rfl ?_
    refine Qf (b_neqF rfl) ?_
    refine Qx (rfl) ?_
    unfold K44_7
    refine Qb (Xy (by omega)) ?_
    exact hk _ rfl
  · subst hi
    rw [L44_5_succ]
    unfold L44_5_b
    refine Qb (fa55_2) ?_
    refine Qb (Qg a1.2 ag32 rfl) ?_
    refine Qb (Qp un32 (ra)) ?_
    refine Qb (Q4 (by omega)) ?_
    refine Qx (rfl) ?_
    unfold Jr
    exact Qs ⟨rfl,e⟩
theorem eq13 {n:Nat} {σ:St} {tab:Tab} (ht:Fr tab) {ok1 ok2:Nat→Prop} {ca cb:List CV} {s:Nat} {ll:List (List Bool)} (ha:RepL ok1 σ ca [dW s,Jp ll]) (hb:RepL ok2 σ cb [dW s,Jp ll]) (hf:Few ll) :
    Yl (Ql (C M) tab (n + 1) 47 [.agg ca,.agg cb] σ) (fun v σ'=>v = B true∧Gr σ σ'):=by
  obtain ⟨_,x,rfl,h1,ra⟩:=rl2 ha
  obtain ⟨_,y,rfl,h3,rb⟩:=rl2 hb
  obtain rfl:=h1.of_flat
  obtain rfl:=h3.of_flat
  have h1:=hf.1
  refine Q3 (ht _ rfl) Tryz.func47 (by kernel_rfl) ?_
  rw [F47_eq]
  unfold K47_0
  refine Yn fun σ1 b1 e1 a1 _=>Yn fun σ2 b2 e2 a2 _=>?_
  have e:=e1.trans e2
  replace a1:=a1.ext e2
  replace ra:=ra.ext e
  replace rb:=rb.ext e
  unfold K47_1
  refine Qb (fa118_0) ?_
  refine Qb (Qg a1.2 Zf rfl) ?_
  refine Qb (fa118_0) ?_
  refine Qb (Qg a2.2 Zf rfl) ?_
  refine Qb (u_neqF (by omega)) ?_
  refine Qb (Qe (Jb)) ?_
  refine Qb (Qe (Qg a1.2 Wt rfl)) ?_
  refine Qb (Qe (Qp W9 (ra))) ?_
  refine Qb (Qe (Jb)) ?_
  refine Qb (Qe (Qg a2.2 Wt rfl)) ?_
  refine Qb (Qe (Qp W9 (rb))) ?_
  refine Qb (Qe (Xd (by omega))) ?_
  refine Qb (rfl) ?_
  refine Qx (rfl) ?_
  unfold K47_2 K47_4
  refine Yb (L:=fun f j σ=>L47_5 M (Ql (C M) tab n) f (P b1 0) (P b2 0) (I (j:Nat)) σ) (n:=ll.length) (fun _ s=>s = σ2) (fun f j σ' hj hi hk=>?_) (fun f σ' hi=>?_) 0 M σ2 (by omega) (by unfold M; omega) rfl
  · subst hi
    rw [L47_5_succ]
    obtain ⟨r,hr⟩:=Q6 hj
    obtain ⟨b3,k3,x3,i3,a3,r3,_⟩:=Xg W9 sz32 ra hr
    obtain ⟨b4,k4,x4,i4,a4,r4,_⟩:=Xg W9 sz32 rb hr
    have h2:=hf.2 r (List.mem_of_getElem? hr)
    unfold L47_5_b
    refine Qb (Jb) ?_
    refine Qb (Qg a1.2 Wt rfl) ?_
    refine Qb (Qp W9 (ra)) ?_
    refine Qb (Xi (by omega)) ?_
    refine Xc (rfl) ?_
    unfold K47_6
    refine X0 ?_
    refine Qf (Jb) ?_
    refine Qj (Qg a1.2 Wt rfl) rfl ?_
    refine Qf (i3 _) ?_
    refine Qj (Q8 a3.2 ag32 rfl) rfl ?_
    refine Qj (Qp un32 (r3)) rfl ?_
    refine Qf (Jb) ?_
    refine Qj (Qg a2.2 Wt rfl) rfl ?_
    refine Qf (i4 _) ?_
    refine Qj (Q8 a4.2 ag32 rfl) rfl ?_
    refine Qj (Qp un32 (r4)) rfl ?_
    refine Qf (Xd (by omega)) ?_
    refine Qx (rfl) ?_
    unfold K47_8 K47_9
    refine Yb (L:=fun f' i σ=>L47_10 M (Ql (C M) tab n) (L47_5 M (Ql (C M) tab n) f) f' (P b1 0) (P b2 0) (I (j:Nat)) (I (i:Nat)) σ) (n:=r.length) (fun _ s=>s = σ') (fun f' i s hi' hs hk'=>?_) (fun f' s hs=>?_) 0 M σ' (by omega) (by unfold M; omega) rfl
    · subst hs
      rw [L47_10_succ]
      obtain ⟨z,hz⟩:=Q6 hi'
      obtain ⟨b5,k5,x5,i5,a5,r5,_⟩:=Xg un32 sz4 r3 hz
      obtain ⟨b6,k6,x6,i6,a6,r6,_⟩:=Xg un32 sz4 r4 hz
      obtain rfl:=r5.of_flat
      obtain rfl:=r6.of_flat
      unfold L47_10_b
      refine Qb (Jb) ?_
      refine Qb (Qg a1.2 Wt rfl) ?_
      refine Qb (i3 _) ?_
      refine Qb (Q8 a3.2 ag32 rfl) ?_
      refine Qb (Qp un32 (r3)) ?_
      refine Qb (Xi (by omega)) ?_
      refine Xc (rfl) ?_
      unfold K47_11
      refine X0 ?_
      refine Qf (Jb) ?_
      refine Qj (Qg a1.2 Wt rfl) rfl ?_
      refine Qf (i3 _) ?_
      refine Qj (Q8 a3.2 ag32 rfl) rfl ?_
      refine Qf (i5 _) ?_
      refine Qj (Q8 a5.2 ag4 rfl) rfl ?_
      refine Qf (Jb) ?_
      refine Qj (Qg a2.2 Wt rfl) rfl ?_
      refine Qf (i4 _) ?_
      refine Qj (Q8 a4.2 ag32 rfl) rfl ?_
      refine Qf (i6 _) ?_
      refine Qj (Q8 a6.2 ag4 rfl) rfl ?_
      refine Qf (b_neqF rfl) ?_
      refine Qx (rfl) ?_
      unfold K47_12
      refine Qb (Xy (by omega)) ?_
      exact hk' _ rfl
    · subst hs
      rw [L47_10_succ]
      unfold L47_10_b
      refine Qb (Jb) ?_
      refine Qb (Qg a1.2 Wt rfl) ?_
      refine Qb (i3 _) ?_
      refine Qb (Q8 a3.2 ag32 rfl) ?_
      refine Qb (Qp un32 (r3)) ?_
      refine Qb (Q4 (by omega)) ?_
      refine Qx (rfl) ?_
      unfold Yw
      refine Qb (Xy (by omega)) ?_
      exact hk _ rfl
  · subst hi
    rw [L47_5_succ]
    unfold L47_5_b
    refine Qb (Jb) ?_
    refine Qb (Qg a1.2 Wt rfl) ?_
    refine Qb (Qp W9 (ra)) ?_
    refine Qb (Q4 (by omega)) ?_
    refine Qx (rfl) ?_
    unfold Yv
    exact Qs ⟨rfl,e⟩
end Core
end Go.Proofs.YtjfgdcegpgoobaaGreatDoor
namespace Go.Proofs.YtjfgdcegpgoobaaGreatDoor
open Go.Run Go
namespace Core
open Ty
set_option maxRecDepth 1000000
def fIdx {α:Type} (p:α→Bool) (l:List α):Int:=match l.findIdx? p with
  | some i=>(i:Nat)
  | none=>-1
theorem V5 {α:Type} {p:α→Bool} {l:List α} {j:Nat} {x:α} (h:l[j]? = some x) (hp:p x = true) (hno:∀ i y,i < j→l[i]? = some y→p y = false):fIdx p l = (j:Nat):=by
  have:l.findIdx? p = some j:=by
    rw [List.findIdx?_eq_some_iff_getElem]
    obtain ⟨hj,rfl⟩:=List.getElem?_eq_some_iff.mp h
    exact ⟨hj,hp,fun i hi=>by rw [hno i _ hi (List.getElem?_eq_getElem (by omega))]; decide⟩
  unfold fIdx; rw [this]
theorem V6 {α:Type} {p:α→Bool} {l:List α} (hno:∀ i y,i < l.length→l[i]? = some y→p y = false):fIdx p l = -1:=by
  have:l.findIdx? p = none:=by
    rw [List.findIdx?_eq_none_iff]
    intro x hx
    obtain ⟨i,hi,rfl⟩:=List.getElem_of_mem hx
    exact hno i _ hi (List.getElem?_eq_getElem hi)
  unfold fIdx; rw [this]
theorem Wz {α:Type} {p:α→Bool} {l:List α} {cx:Cx} {t:TypeId} {σ:St}:Qi cx .geq t (I (fIdx p l)) (I 0) σ = .val (B (l.any p)):=by
  cases h:l.findIdx? p with
  | none=>
    have e:l.any p = false:=by
      rw [List.findIdx?_eq_none_iff] at h
      rw [List.any_eq_false]
      intro x hx; rw [h x hx]; decide
    have:fIdx p l = -1:=by unfold fIdx; rw [h]
    rw [this,e]
    exact k_geqF (by omega)
  | some i=>
    have e:l.any p = true:=by
      rw [List.findIdx?_eq_some_iff_getElem] at h
      obtain ⟨h1,h2,_⟩:=h
      rw [List.any_eq_true]
      exact ⟨_,List.getElem_mem h1,h2⟩
    have:fIdx p l = (i:Nat):=by unfold fIdx; rw [h]
    rw [this,e]
    exact k_geqT (by omega)
theorem elem_l {α:Type} {l:List α} {f:α→List DV} {x:α} {σ:St} {ok:Nat→Prop} {t e':TypeId} {sz j:Nat} {cv:CV} (hu:und (C M) t = some (.slice e')) (hs:size (C M) e' = some sz) (h:Rep ok σ cv (.sl sz (l.map f))) (he:l[j]? = some x) :
    ∃ b k cs,(∀ σ',Q9 (C M) t (.one cv) (I (j:Nat)) σ' = .val (P b k))∧At σ b k cs∧RepL ok σ cs (f x)∧cs.length = sz:=by
  obtain ⟨b,k,cs,h1,_,h3,h4,h5⟩:=elem hu hs h (get_map he)
  exact ⟨b,k,cs,h1,h3,h4,h5⟩
theorem y_fcyl {cx:Cx} {call:Qd} {σ:St} {Q Q':AV→St→Prop} {g:FuncId} {caps:List (Nat × Nat)} {args:List AV} {k:AV→Kt} (hx:cx.ext g = none) (h:Yl (call g (args ++ Z0 caps) σ) Q') (hk:∀ v σ',Q' v σ'→Yl (k v σ') Q):Yl (bnd (Qy cx call (.one (.func g caps)) args) k σ) Q:=by
  obtain ⟨v,σ',h1,h2⟩:=h
  refine Yj (v:=v) (σ':=σ') ?_ (hk v σ' h2)
  unfold Qy callV
  simp only [hx,outC,h1]
theorem if68 {α:Type} {n:Nat} {σ:St} {tab:Tab} (ht:Fr tab) {ok:Nat→Prop} {l:List α} {f:α→DV} {p:α→Bool} {g:FuncId} {caps:List (Nat × Nat)} {cv:CV} (h:Rep ok σ cv (.sl 1 (l.map fun y=>[f y]))) (hl:l.length < 1000000) (hx:(C M).ext g = none)
    (hg:∀ x ∈ l,∀ (s:St) (c:CV),Gr σ s→Rep ok s c (f x)→Yl (Ql (C M) tab n g ([.one c] ++ Z0 caps) s) (fun v s'=>v = B (p x)∧Gr s s')) :
    Yl (Ql (C M) tab (n + 1) 68 [.one cv,.one (.func g caps)] σ) (fun v σ'=>v = I (fIdx p l)∧Gr σ σ'):=by
  refine Q3 (ht _ rfl) Tryz.func68 (by kernel_rfl) ?_
  rw [F68_eq]
  unfold K68_0
  unfold K68_1
  refine Qb (Qp Vj (h)) ?_
  unfold K68_3
  refine Yb (L:=fun f' j s=>L68_4 M (Ql (C M) tab n) f' (.one cv) (.one (.func g caps)) (I (l.length:Nat)) (I (j:Nat)) s) (n:=l.length) (fun j s=>Gr σ s∧∀ i y,i < j→l[i]? = some y→p y = false) (fun f' j s hj hi hk=>?_) (fun f' s hi=>?_) 0 M σ (by omega) (by unfold M; omega) ⟨Gr.refl _,fun i x hi=>by omega⟩
  · obtain ⟨e,hno⟩:=hi
    rw [L68_4_succ]
    obtain ⟨x,hxj⟩:=Q6 hj
    obtain ⟨b1,k1,c1,i1,a1,r1,hc⟩:=Xg Vj sz3 (h.ext e) hxj
    unfold L68_4_b
    refine Qb (Xi (by omega)) ?_
    unfold K68_5
    refine Xc (rfl) ?_
    unfold K68_6
    refine Qb (i1 _) ?_
    refine Qb (Q8 a1.2 ag3 rfl) ?_
    refine y_fcyl hx (hg x (List.mem_of_getElem? hxj) s _ e r1) fun v s' ⟨hv,e'⟩=>?_
    subst hv
    refine y_if (fun hp=>?_) (fun hp=>?_)
    · exact Qs ⟨by rw [V5 hxj hp hno],e.trans e'⟩
    · unfold K68_7
      refine Qb (Xy (by omega)) ?_
      exact hk _ ⟨e.trans e',fun i y hi hy=>by
        rcases Nat.lt_succ_iff_lt_or_eq.mp hi with h1 | rfl
        · exact hno i y h1 hy
        · rw [hxj] at hy; cases hy; exact hp⟩
  · obtain ⟨e,hno⟩:=hi
    rw [L68_4_succ]
    unfold L68_4_b
    refine Qb (Q4 (by omega)) ?_
    unfold K68_5
    refine Qx (rfl) ?_
    unfold We
    exact Qs ⟨by rw [V6 hno],e⟩
theorem cf27 {α:Type} {n:Nat} {σ:St} {tab:Tab} (ht:Fr tab) {ok:Nat→Prop} {l:List α} {f:α→DV} {p:α→Bool} {g:FuncId} {caps:List (Nat × Nat)} {cv:CV} (h:Rep ok σ cv (.sl 1 (l.map fun y=>[f y]))) (hl:l.length < 1000000) (hx:(C M).ext g = none)
    (hg:∀ x ∈ l,∀ (s:St) (c:CV),Gr σ s→Rep ok s c (f x)→Yl (Ql (C M) tab n g ([.one c] ++ Z0 caps) s) (fun v s'=>v = B (p x)∧Gr s s')) :
    Yl (Ql (C M) tab (n + 2) 27 [.one cv,.one (.func g caps)] σ) (fun v σ'=>v = B (l.any p)∧Gr σ σ'):=by
  refine Q3 (ht _ rfl) Tryz.func27 (by kernel_rfl) ?_
  rw [F27_eq]
  unfold K27_0
  refine V4 rfl (if68 ht h hl hx hg) fun v s ⟨hv,e⟩=>?_
  subst hv
  refine Qb (Wz) ?_
  exact Qs ⟨rfl,e⟩
theorem if133 {α:Type} {n:Nat} {σ:St} {tab:Tab} (ht:Fr tab) {ok:Nat→Prop} {l:List α} {f:α→List DV} {p:α→Bool} {g:FuncId} {caps:List (Nat × Nat)} {cv:CV} (h:Rep ok σ cv (.sl 3 (l.map f))) (hl:l.length < 1000000) (hx:(C M).ext g = none)
    (hg:∀ x ∈ l,∀ (s:St) (c:List CV),Gr σ s→RepL ok s c (f x)→Yl (Ql (C M) tab n g ([.agg c] ++ Z0 caps) s) (fun v s'=>v = B (p x)∧Gr s s')) :
    Yl (Ql (C M) tab (n + 1) 133 [.one cv,.one (.func g caps)] σ) (fun v σ'=>v = I (fIdx p l)∧Gr σ σ'):=by
  refine Q3 (ht _ rfl) Tryz.func133 (by kernel_rfl) ?_
  rw [F133_eq]
  unfold K133_0
  unfold K133_1
  refine Qb (Qp un85 (h)) ?_
  unfold K133_3
  refine Yb (L:=fun f' j s=>L133_4 M (Ql (C M) tab n) f' (.one cv) (.one (.func g caps)) (I (l.length:Nat)) (I (j:Nat)) s) (n:=l.length) (fun j s=>Gr σ s∧∀ i y,i < j→l[i]? = some y→p y = false) (fun f' j s hj hi hk=>?_) (fun f' s hi=>?_) 0 M σ (by omega) (by unfold M; omega) ⟨Gr.refl _,fun i x hi=>by omega⟩
  · obtain ⟨e,hno⟩:=hi
    rw [L133_4_succ]
    obtain ⟨x,hxj⟩:=Q6 hj
    obtain ⟨b1,k1,c1,i1,a1,r1,hc⟩:=elem_l un85 sz92 (h.ext e) hxj
    unfold L133_4_b
    refine Qb (Xi (by omega)) ?_
    unfold K133_5
    refine Xc (rfl) ?_
    unfold K133_6
    refine Qb (i1 _) ?_
    refine Qb (Q7 a1.2 ag92 sz92 hc) ?_
    refine y_fcyl hx (hg x (List.mem_of_getElem? hxj) s _ e r1) fun v s' ⟨hv,e'⟩=>?_
    subst hv
    refine y_if (fun hp=>?_) (fun hp=>?_)
    · exact Qs ⟨by rw [V5 hxj hp hno],e.trans e'⟩
    · unfold K133_7
      refine Qb (Xy (by omega)) ?_
      exact hk _ ⟨e.trans e',fun i y hi hy=>by
        rcases Nat.lt_succ_iff_lt_or_eq.mp hi with h1 | rfl
        · exact hno i y h1 hy
        · rw [hxj] at hy; cases hy; exact hp⟩
  · obtain ⟨e,hno⟩:=hi
    rw [L133_4_succ]
    unfold L133_4_b
    refine Qb (Q4 (by omega)) ?_
    unfold K133_5
    refine Qx (rfl) ?_
    unfold Zx
    exact Qs ⟨by rw [V6 hno],e⟩
theorem cf73 {α:Type} {n:Nat} {σ:St} {tab:Tab} (ht:Fr tab) {ok:Nat→Prop} {l:List α} {f:α→List DV} {p:α→Bool} {g:FuncId} {caps:List (Nat × Nat)} {cv:CV} (h:Rep ok σ cv (.sl 3 (l.map f))) (hl:l.length < 1000000) (hx:(C M).ext g = none)
    (hg:∀ x ∈ l,∀ (s:St) (c:List CV),Gr σ s→RepL ok s c (f x)→Yl (Ql (C M) tab n g ([.agg c] ++ Z0 caps) s) (fun v s'=>v = B (p x)∧Gr s s')) :
    Yl (Ql (C M) tab (n + 2) 73 [.one cv,.one (.func g caps)] σ) (fun v σ'=>v = B (l.any p)∧Gr σ σ'):=by
  refine Q3 (ht _ rfl) Tryz.func73 (by kernel_rfl) ?_
  rw [F73_eq]
  unfold K73_0
  refine V4 rfl (if133 ht h hl hx hg) fun v s ⟨hv,e⟩=>?_
  subst hv
  refine Qb (Wz) ?_
  exact Qs ⟨rfl,e⟩
theorem if134 {α:Type} {n:Nat} {σ:St} {tab:Tab} (ht:Fr tab) {ok:Nat→Prop} {l:List α} {f:α→List DV} {p:α→Bool} {g:FuncId} {caps:List (Nat × Nat)} {cv:CV} (h:Rep ok σ cv (.sl 4 (l.map f))) (hl:l.length < 1000000) (hx:(C M).ext g = none)
    (hg:∀ x ∈ l,∀ (s:St) (c:List CV),Gr σ s→RepL ok s c (f x)→Yl (Ql (C M) tab n g ([.agg c] ++ Z0 caps) s) (fun v s'=>v = B (p x)∧Gr s s')) :
    Yl (Ql (C M) tab (n + 1) 134 [.one cv,.one (.func g caps)] σ) (fun v σ'=>v = I (fIdx p l)∧Gr σ σ'):=by
  refine Q3 (ht _ rfl) Tryz.func134 (by kernel_rfl) ?_
  rw [F134_eq]
  unfold K134_0
  unfold K134_1
  refine Qb (Qp un94 (h)) ?_
  unfold K134_3
  refine Yb (L:=fun f' j s=>L134_4 M (Ql (C M) tab n) f' (.one cv) (.one (.func g caps)) (I (l.length:Nat)) (I (j:Nat)) s) (n:=l.length) (fun j s=>Gr σ s∧∀ i y,i < j→l[i]? = some y→p y = false) (fun f' j s hj hi hk=>?_) (fun f' s hi=>?_) 0 M σ (by omega) (by unfold M; omega) ⟨Gr.refl _,fun i x hi=>by omega⟩
  · obtain ⟨e,hno⟩:=hi
    rw [L134_4_succ]
    obtain ⟨x,hxj⟩:=Q6 hj
    obtain ⟨b1,k1,c1,i1,a1,r1,hc⟩:=elem_l un94 sz97 (h.ext e) hxj
    unfold L134_4_b
    refine Qb (Xi (by omega)) ?_
    unfold K134_5
    refine Xc (rfl) ?_
    unfold K134_6
    refine Qb (i1 _) ?_
    refine Qb (Q7 a1.2 ag97 sz97 hc) ?_
    refine y_fcyl hx (hg x (List.mem_of_getElem? hxj) s _ e r1) fun v s' ⟨hv,e'⟩=>?_
    subst hv
    refine y_if (fun hp=>?_) (fun hp=>?_)
    · exact Qs ⟨by rw [V5 hxj hp hno],e.trans e'⟩
    · unfold K134_7
      refine Qb (Xy (by omega)) ?_
      exact hk _ ⟨e.trans e',fun i y hi hy=>by
        rcases Nat.lt_succ_iff_lt_or_eq.mp hi with h1 | rfl
        · exact hno i y h1 hy
        · rw [hxj] at hy; cases hy; exact hp⟩
  · obtain ⟨e,hno⟩:=hi
    rw [L134_4_succ]
    unfold L134_4_b
    refine Qb (Q4 (by omega)) ?_
    unfold K134_5
    refine Qx (rfl) ?_
    unfold Zr
    exact Qs ⟨by rw [V6 hno],e⟩
theorem cf75 {α:Type} {n:Nat} {σ:St} {tab:Tab} (ht:Fr tab) {ok:Nat→Prop} {l:List α} {f:α→List DV} {p:α→Bool} {g:FuncId} {caps:List (Nat × Nat)} {cv:CV} (h:Rep ok σ cv (.sl 4 (l.map f))) (hl:l.length < 1000000) (hx:(C M).ext g = none)
    (hg:∀ x ∈ l,∀ (s:St) (c:List CV),Gr σ s→RepL ok s c (f x)→Yl (Ql (C M) tab n g ([.agg c] ++ Z0 caps) s) (fun v s'=>v = B (p x)∧Gr s s')) :
    Yl (Ql (C M) tab (n + 2) 75 [.one cv,.one (.func g caps)] σ) (fun v σ'=>v = B (l.any p)∧Gr σ σ'):=by
  refine Q3 (ht _ rfl) Tryz.func75 (by kernel_rfl) ?_
  rw [F75_eq]
  unfold K75_0
  refine V4 rfl (if134 ht h hl hx hg) fun v s ⟨hv,e⟩=>?_
  subst hv
  refine Qb (Wz) ?_
  exact Qs ⟨rfl,e⟩
theorem if135 {α:Type} {n:Nat} {σ:St} {tab:Tab} (ht:Fr tab) {ok:Nat→Prop} {l:List α} {f:α→List DV} {p:α→Bool} {g:FuncId} {caps:List (Nat × Nat)} {cv:CV} (h:Rep ok σ cv (.sl 2 (l.map f))) (hl:l.length < 1000000) (hx:(C M).ext g = none)
    (hg:∀ x ∈ l,∀ (s:St) (c:List CV),Gr σ s→RepL ok s c (f x)→Yl (Ql (C M) tab n g ([.agg c] ++ Z0 caps) s) (fun v s'=>v = B (p x)∧Gr s s')) :
    Yl (Ql (C M) tab (n + 1) 135 [.one cv,.one (.func g caps)] σ) (fun v σ'=>v = I (fIdx p l)∧Gr σ σ'):=by
  refine Q3 (ht _ rfl) Tryz.func135 (by kernel_rfl) ?_
  rw [F135_eq]
  unfold K135_0
  unfold K135_1
  refine Qb (Qp un101 (h)) ?_
  unfold K135_3
  refine Yb (L:=fun f' j s=>L135_4 M (Ql (C M) tab n) f' (.one cv) (.one (.func g caps)) (I (l.length:Nat)) (I (j:Nat)) s) (n:=l.length) (fun j s=>Gr σ s∧∀ i y,i < j→l[i]? = some y→p y = false) (fun f' j s hj hi hk=>?_) (fun f' s hi=>?_) 0 M σ (by omega) (by unfold M; omega) ⟨Gr.refl _,fun i x hi=>by omega⟩
  · obtain ⟨e,hno⟩:=hi
    rw [L135_4_succ]
    obtain ⟨x,hxj⟩:=Q6 hj
    obtain ⟨b1,k1,c1,i1,a1,r1,hc⟩:=elem_l un101 sz109 (h.ext e) hxj
    unfold L135_4_b
    refine Qb (Xi (by omega)) ?_
    unfold K135_5
    refine Xc (rfl) ?_
    unfold K135_6
    refine Qb (i1 _) ?_
    refine Qb (Q7 a1.2 ag109 sz109 hc) ?_
    refine y_fcyl hx (hg x (List.mem_of_getElem? hxj) s _ e r1) fun v s' ⟨hv,e'⟩=>?_
    subst hv
    refine y_if (fun hp=>?_) (fun hp=>?_)
    · exact Qs ⟨by rw [V5 hxj hp hno],e.trans e'⟩
    · unfold K135_7
      refine Qb (Xy (by omega)) ?_
      exact hk _ ⟨e.trans e',fun i y hi hy=>by
        rcases Nat.lt_succ_iff_lt_or_eq.mp hi with h1 | rfl
        · exact hno i y h1 hy
        · rw [hxj] at hy; cases hy; exact hp⟩
  · obtain ⟨e,hno⟩:=hi
    rw [L135_4_succ]
    unfold L135_4_b
    refine Qb (Q4 (by omega)) ?_
    unfold K135_5
    refine Qx (rfl) ?_
    unfold Zy
    exact Qs ⟨by rw [V6 hno],e⟩
theorem cf77 {α:Type} {n:Nat} {σ:St} {tab:Tab} (ht:Fr tab) {ok:Nat→Prop} {l:List α} {f:α→List DV} {p:α→Bool} {g:FuncId} {caps:List (Nat × Nat)} {cv:CV} (h:Rep ok σ cv (.sl 2 (l.map f))) (hl:l.length < 1000000) (hx:(C M).ext g = none)
    (hg:∀ x ∈ l,∀ (s:St) (c:List CV),Gr σ s→RepL ok s c (f x)→Yl (Ql (C M) tab n g ([.agg c] ++ Z0 caps) s) (fun v s'=>v = B (p x)∧Gr s s')) :
    Yl (Ql (C M) tab (n + 2) 77 [.one cv,.one (.func g caps)] σ) (fun v σ'=>v = B (l.any p)∧Gr σ σ'):=by
  refine Q3 (ht _ rfl) Tryz.func77 (by kernel_rfl) ?_
  rw [F77_eq]
  unfold K77_0
  refine V4 rfl (if135 ht h hl hx hg) fun v s ⟨hv,e⟩=>?_
  subst hv
  refine Qb (Wz) ?_
  exact Qs ⟨rfl,e⟩
theorem if136 {α:Type} {n:Nat} {σ:St} {tab:Tab} (ht:Fr tab) {ok:Nat→Prop} {l:List α} {f:α→List DV} {p:α→Bool} {g:FuncId} {caps:List (Nat × Nat)} {cv:CV} (h:Rep ok σ cv (.sl 4 (l.map f))) (hl:l.length < 1000000) (hx:(C M).ext g = none)
    (hg:∀ x ∈ l,∀ (s:St) (c:List CV),Gr σ s→RepL ok s c (f x)→Yl (Ql (C M) tab n g ([.agg c] ++ Z0 caps) s) (fun v s'=>v = B (p x)∧Gr s s')) :
    Yl (Ql (C M) tab (n + 1) 136 [.one cv,.one (.func g caps)] σ) (fun v σ'=>v = I (fIdx p l)∧Gr σ σ'):=by
  refine Q3 (ht _ rfl) Tryz.func136 (by kernel_rfl) ?_
  rw [F136_eq]
  unfold K136_0
  unfold K136_1
  refine Qb (Qp un111 (h)) ?_
  unfold K136_3
  refine Yb (L:=fun f' j s=>L136_4 M (Ql (C M) tab n) f' (.one cv) (.one (.func g caps)) (I (l.length:Nat)) (I (j:Nat)) s) (n:=l.length) (fun j s=>Gr σ s∧∀ i y,i < j→l[i]? = some y→p y = false) (fun f' j s hj hi hk=>?_) (fun f' s hi=>?_) 0 M σ (by omega) (by unfold M; omega) ⟨Gr.refl _,fun i x hi=>by omega⟩
  · obtain ⟨e,hno⟩:=hi
    rw [L136_4_succ]
    obtain ⟨x,hxj⟩:=Q6 hj
    obtain ⟨b1,k1,c1,i1,a1,r1,hc⟩:=elem_l un111 sz117 (h.ext e) hxj
    unfold L136_4_b
    refine Qb (Xi (by omega)) ?_
    unfold K136_5
    refine Xc (rfl) ?_
    unfold K136_6
    refine Qb (i1 _) ?_
    refine Qb (Q7 a1.2 ag117 sz117 hc) ?_
    refine y_fcyl hx (hg x (List.mem_of_getElem? hxj) s _ e r1) fun v s' ⟨hv,e'⟩=>?_
    subst hv
    refine y_if (fun hp=>?_) (fun hp=>?_)
    · exact Qs ⟨by rw [V5 hxj hp hno],e.trans e'⟩
    · unfold K136_7
      refine Qb (Xy (by omega)) ?_
      exact hk _ ⟨e.trans e',fun i y hi hy=>by
        rcases Nat.lt_succ_iff_lt_or_eq.mp hi with h1 | rfl
        · exact hno i y h1 hy
        · rw [hxj] at hy; cases hy; exact hp⟩
  · obtain ⟨e,hno⟩:=hi
    rw [L136_4_succ]
    unfold L136_4_b
    refine Qb (Q4 (by omega)) ?_
    unfold K136_5
    refine Qx (rfl) ?_
    unfold Zz
    exact Qs ⟨by rw [V6 hno],e⟩
theorem cf79 {α:Type} {n:Nat} {σ:St} {tab:Tab} (ht:Fr tab) {ok:Nat→Prop} {l:List α} {f:α→List DV} {p:α→Bool} {g:FuncId} {caps:List (Nat × Nat)} {cv:CV} (h:Rep ok σ cv (.sl 4 (l.map f))) (hl:l.length < 1000000) (hx:(C M).ext g = none)
    (hg:∀ x ∈ l,∀ (s:St) (c:List CV),Gr σ s→RepL ok s c (f x)→Yl (Ql (C M) tab n g ([.agg c] ++ Z0 caps) s) (fun v s'=>v = B (p x)∧Gr s s')) :
    Yl (Ql (C M) tab (n + 2) 79 [.one cv,.one (.func g caps)] σ) (fun v σ'=>v = B (l.any p)∧Gr σ σ'):=by
  refine Q3 (ht _ rfl) Tryz.func79 (by kernel_rfl) ?_
  rw [F79_eq]
  unfold K79_0
  refine V4 rfl (if136 ht h hl hx hg) fun v s ⟨hv,e⟩=>?_
  subst hv
  refine Qb (Wz) ?_
  exact Qs ⟨rfl,e⟩
theorem if168 {α:Type} {n:Nat} {σ:St} {tab:Tab} (ht:Fr tab) {ok:Nat→Prop} {l:List α} {f:α→List DV} {p:α→Bool} {g:FuncId} {caps:List (Nat × Nat)} {cv:CV} (h:Rep ok σ cv (.sl 2 (l.map f))) (hl:l.length < 1000000) (hx:(C M).ext g = none)
    (hg:∀ x ∈ l,∀ (s:St) (c:List CV),Gr σ s→RepL ok s c (f x)→Yl (Ql (C M) tab n g ([.agg c] ++ Z0 caps) s) (fun v s'=>v = B (p x)∧Gr s s')) :
    Yl (Ql (C M) tab (n + 1) 168 [.one cv,.one (.func g caps)] σ) (fun v σ'=>v = I (fIdx p l)∧Gr σ σ'):=by
  refine Q3 (ht _ rfl) Tryz.func168 (by kernel_rfl) ?_
  rw [F168_eq]
  unfold K168_0
  unfold K168_1
  refine Qb (Qp un26 (h)) ?_
  unfold K168_3
  refine Yb (L:=fun f' j s=>L168_4 M (Ql (C M) tab n) f' (.one cv) (.one (.func g caps)) (I (l.length:Nat)) (I (j:Nat)) s) (n:=l.length) (fun j s=>Gr σ s∧∀ i y,i < j→l[i]? = some y→p y = false) (fun f' j s hj hi hk=>?_) (fun f' s hi=>?_) 0 M σ (by omega) (by unfold M; omega) ⟨Gr.refl _,fun i x hi=>by omega⟩
  · obtain ⟨e,hno⟩:=hi
    rw [L168_4_succ]
    obtain ⟨x,hxj⟩:=Q6 hj
    obtain ⟨b1,k1,c1,i1,a1,r1,hc⟩:=elem_l un26 sz87 (h.ext e) hxj
    unfold L168_4_b
    refine Qb (Xi (by omega)) ?_
    unfold K168_5
    refine Xc (rfl) ?_
    unfold K168_6
    refine Qb (i1 _) ?_
    refine Qb (Q7 a1.2 ag87 sz87 hc) ?_
    refine y_fcyl hx (hg x (List.mem_of_getElem? hxj) s _ e r1) fun v s' ⟨hv,e'⟩=>?_
    subst hv
    refine y_if (fun hp=>?_) (fun hp=>?_)
    · exact Qs ⟨by rw [V5 hxj hp hno],e.trans e'⟩
    · unfold K168_7
      refine Qb (Xy (by omega)) ?_
      exact hk _ ⟨e.trans e',fun i y hi hy=>by
        rcases Nat.lt_succ_iff_lt_or_eq.mp hi with h1 | rfl
        · exact hno i y h1 hy
        · rw [hxj] at hy; cases hy; exact hp⟩
  · obtain ⟨e,hno⟩:=hi
    rw [L168_4_succ]
    unfold L168_4_b
    refine Qb (Q4 (by omega)) ?_
    unfold K168_5
    refine Qx (rfl) ?_
    unfold Zq
    exact Qs ⟨by rw [V6 hno],e⟩
theorem cf124 {α:Type} {n:Nat} {σ:St} {tab:Tab} (ht:Fr tab) {ok:Nat→Prop} {l:List α} {f:α→List DV} {p:α→Bool} {g:FuncId} {caps:List (Nat × Nat)} {cv:CV} (h:Rep ok σ cv (.sl 2 (l.map f))) (hl:l.length < 1000000) (hx:(C M).ext g = none)
    (hg:∀ x ∈ l,∀ (s:St) (c:List CV),Gr σ s→RepL ok s c (f x)→Yl (Ql (C M) tab n g ([.agg c] ++ Z0 caps) s) (fun v s'=>v = B (p x)∧Gr s s')) :
    Yl (Ql (C M) tab (n + 2) 124 [.one cv,.one (.func g caps)] σ) (fun v σ'=>v = B (l.any p)∧Gr σ σ'):=by
  refine Q3 (ht _ rfl) Tryz.func124 (by kernel_rfl) ?_
  rw [F124_eq]
  unfold K124_0
  refine V4 rfl (if168 ht h hl hx hg) fun v s ⟨hv,e⟩=>?_
  subst hv
  refine Qb (Wz) ?_
  exact Qs ⟨rfl,e⟩
theorem if169 {α:Type} {n:Nat} {σ:St} {tab:Tab} (ht:Fr tab) {ok:Nat→Prop} {l:List α} {f:α→DV} {p:α→Bool} {g:FuncId} {caps:List (Nat × Nat)} {cv:CV} (h:Rep ok σ cv (.sl 1 (l.map fun y=>[f y]))) (hl:l.length < 1000000) (hx:(C M).ext g = none)
    (hg:∀ x ∈ l,∀ (s:St) (c:CV),Gr σ s→Rep ok s c (f x)→Yl (Ql (C M) tab n g ([.one c] ++ Z0 caps) s) (fun v s'=>v = B (p x)∧Gr s s')) :
    Yl (Ql (C M) tab (n + 1) 169 [.one cv,.one (.func g caps)] σ) (fun v σ'=>v = I (fIdx p l)∧Gr σ σ'):=by
  refine Q3 (ht _ rfl) Tryz.func169 (by kernel_rfl) ?_
  rw [F169_eq]
  unfold K169_0
  unfold K169_1
  refine Qb (Qp un35 (h)) ?_
  unfold K169_3
  refine Yb (L:=fun f' j s=>L169_4 M (Ql (C M) tab n) f' (.one cv) (.one (.func g caps)) (I (l.length:Nat)) (I (j:Nat)) s) (n:=l.length) (fun j s=>Gr σ s∧∀ i y,i < j→l[i]? = some y→p y = false) (fun f' j s hj hi hk=>?_) (fun f' s hi=>?_) 0 M σ (by omega) (by unfold M; omega) ⟨Gr.refl _,fun i x hi=>by omega⟩
  · obtain ⟨e,hno⟩:=hi
    rw [L169_4_succ]
    obtain ⟨x,hxj⟩:=Q6 hj
    obtain ⟨b1,k1,c1,i1,a1,r1,hc⟩:=Xg un35 sz94 (h.ext e) hxj
    unfold L169_4_b
    refine Qb (Xi (by omega)) ?_
    unfold K169_5
    refine Xc (rfl) ?_
    unfold K169_6
    refine Qb (i1 _) ?_
    refine Qb (Q8 a1.2 ag94 rfl) ?_
    refine y_fcyl hx (hg x (List.mem_of_getElem? hxj) s _ e r1) fun v s' ⟨hv,e'⟩=>?_
    subst hv
    refine y_if (fun hp=>?_) (fun hp=>?_)
    · exact Qs ⟨by rw [V5 hxj hp hno],e.trans e'⟩
    · unfold K169_7
      refine Qb (Xy (by omega)) ?_
      exact hk _ ⟨e.trans e',fun i y hi hy=>by
        rcases Nat.lt_succ_iff_lt_or_eq.mp hi with h1 | rfl
        · exact hno i y h1 hy
        · rw [hxj] at hy; cases hy; exact hp⟩
  · obtain ⟨e,hno⟩:=hi
    rw [L169_4_succ]
    unfold L169_4_b
    refine Qb (Q4 (by omega)) ?_
    unfold K169_5
    refine Qx (rfl) ?_
    unfold Zs
    exact Qs ⟨by rw [V6 hno],e⟩
theorem cf127 {α:Type} {n:Nat} {σ:St} {tab:Tab} (ht:Fr tab) {ok:Nat→Prop} {l:List α} {f:α→DV} {p:α→Bool} {g:FuncId} {caps:List (Nat × Nat)} {cv:CV} (h:Rep ok σ cv (.sl 1 (l.map fun y=>[f y]))) (hl:l.length < 1000000) (hx:(C M).ext g = none)
    (hg:∀ x ∈ l,∀ (s:St) (c:CV),Gr σ s→Rep ok s c (f x)→Yl (Ql (C M) tab n g ([.one c] ++ Z0 caps) s) (fun v s'=>v = B (p x)∧Gr s s')) :
    Yl (Ql (C M) tab (n + 2) 127 [.one cv,.one (.func g caps)] σ) (fun v σ'=>v = B (l.any p)∧Gr σ σ'):=by
  refine Q3 (ht _ rfl) Tryz.func127 (by kernel_rfl) ?_
  rw [F127_eq]
  unfold K127_0
  refine V4 rfl (if169 ht h hl hx hg) fun v s ⟨hv,e⟩=>?_
  subst hv
  refine Qb (Wz) ?_
  exact Qs ⟨rfl,e⟩
theorem if196 {α:Type} {n:Nat} {σ:St} {tab:Tab} (ht:Fr tab) {ok:Nat→Prop} {l:List α} {f:α→DV} {p:α→Bool} {g:FuncId} {caps:List (Nat × Nat)} {cv:CV} (h:Rep ok σ cv (.sl 1 (l.map fun y=>[f y]))) (hl:l.length < 1000000) (hx:(C M).ext g = none)
    (hg:∀ x ∈ l,∀ (s:St) (c:CV),Gr σ s→Rep ok s c (f x)→Yl (Ql (C M) tab n g ([.one c] ++ Z0 caps) s) (fun v s'=>v = B (p x)∧Gr s s')) :
    Yl (Ql (C M) tab (n + 1) 196 [.one cv,.one (.func g caps)] σ) (fun v σ'=>v = I (fIdx p l)∧Gr σ σ'):=by
  refine Q3 (ht _ rfl) Tryz.func196 (by kernel_rfl) ?_
  rw [F196_eq]
  unfold K196_0
  unfold K196_1
  refine Qb (Qp Jj (h)) ?_
  unfold K196_3
  refine Yb (L:=fun f' j s=>L196_4 M (Ql (C M) tab n) f' (.one cv) (.one (.func g caps)) (I (l.length:Nat)) (I (j:Nat)) s) (n:=l.length) (fun j s=>Gr σ s∧∀ i y,i < j→l[i]? = some y→p y = false) (fun f' j s hj hi hk=>?_) (fun f' s hi=>?_) 0 M σ (by omega) (by unfold M; omega) ⟨Gr.refl _,fun i x hi=>by omega⟩
  · obtain ⟨e,hno⟩:=hi
    rw [L196_4_succ]
    obtain ⟨x,hxj⟩:=Q6 hj
    obtain ⟨b1,k1,c1,i1,a1,r1,hc⟩:=Xg Jj sz25 (h.ext e) hxj
    unfold L196_4_b
    refine Qb (Xi (by omega)) ?_
    unfold K196_5
    refine Xc (rfl) ?_
    unfold K196_6
    refine Qb (i1 _) ?_
    refine Qb (Q8 a1.2 Ng rfl) ?_
    refine y_fcyl hx (hg x (List.mem_of_getElem? hxj) s _ e r1) fun v s' ⟨hv,e'⟩=>?_
    subst hv
    refine y_if (fun hp=>?_) (fun hp=>?_)
    · exact Qs ⟨by rw [V5 hxj hp hno],e.trans e'⟩
    · unfold K196_7
      refine Qb (Xy (by omega)) ?_
      exact hk _ ⟨e.trans e',fun i y hi hy=>by
        rcases Nat.lt_succ_iff_lt_or_eq.mp hi with h1 | rfl
        · exact hno i y h1 hy
        · rw [hxj] at hy; cases hy; exact hp⟩
  · obtain ⟨e,hno⟩:=hi
    rw [L196_4_succ]
    unfold L196_4_b
    refine Qb (Q4 (by omega)) ?_
    unfold K196_5
    refine Qx (rfl) ?_
    unfold Zt
    exact Qs ⟨by rw [V6 hno],e⟩
theorem cf170 {α:Type} {n:Nat} {σ:St} {tab:Tab} (ht:Fr tab) {ok:Nat→Prop} {l:List α} {f:α→DV} {p:α→Bool} {g:FuncId} {caps:List (Nat × Nat)} {cv:CV} (h:Rep ok σ cv (.sl 1 (l.map fun y=>[f y]))) (hl:l.length < 1000000) (hx:(C M).ext g = none)
    (hg:∀ x ∈ l,∀ (s:St) (c:CV),Gr σ s→Rep ok s c (f x)→Yl (Ql (C M) tab n g ([.one c] ++ Z0 caps) s) (fun v s'=>v = B (p x)∧Gr s s')) :
    Yl (Ql (C M) tab (n + 2) 170 [.one cv,.one (.func g caps)] σ) (fun v σ'=>v = B (l.any p)∧Gr σ σ'):=by
  refine Q3 (ht _ rfl) Tryz.func170 (by kernel_rfl) ?_
  rw [F170_eq]
  unfold K170_0
  refine V4 rfl (if196 ht h hl hx hg) fun v s ⟨hv,e⟩=>?_
  subst hv
  refine Qb (Wz) ?_
  exact Qs ⟨rfl,e⟩
theorem if197 {α:Type} {n:Nat} {σ:St} {tab:Tab} (ht:Fr tab) {ok:Nat→Prop} {l:List α} {f:α→DV} {p:α→Bool} {g:FuncId} {caps:List (Nat × Nat)} {cv:CV} (h:Rep ok σ cv (.sl 1 (l.map fun y=>[f y]))) (hl:l.length < 1000000) (hx:(C M).ext g = none)
    (hg:∀ x ∈ l,∀ (s:St) (c:CV),Gr σ s→Rep ok s c (f x)→Yl (Ql (C M) tab n g ([.one c] ++ Z0 caps) s) (fun v s'=>v = B (p x)∧Gr s s')) :
    Yl (Ql (C M) tab (n + 1) 197 [.one cv,.one (.func g caps)] σ) (fun v σ'=>v = I (fIdx p l)∧Gr σ σ'):=by
  refine Q3 (ht _ rfl) Tryz.func197 (by kernel_rfl) ?_
  rw [F197_eq]
  unfold K197_0
  unfold K197_1
  refine Qb (Qp W9 (h)) ?_
  unfold K197_3
  refine Yb (L:=fun f' j s=>L197_4 M (Ql (C M) tab n) f' (.one cv) (.one (.func g caps)) (I (l.length:Nat)) (I (j:Nat)) s) (n:=l.length) (fun j s=>Gr σ s∧∀ i y,i < j→l[i]? = some y→p y = false) (fun f' j s hj hi hk=>?_) (fun f' s hi=>?_) 0 M σ (by omega) (by unfold M; omega) ⟨Gr.refl _,fun i x hi=>by omega⟩
  · obtain ⟨e,hno⟩:=hi
    rw [L197_4_succ]
    obtain ⟨x,hxj⟩:=Q6 hj
    obtain ⟨b1,k1,c1,i1,a1,r1,hc⟩:=Xg W9 sz32 (h.ext e) hxj
    unfold L197_4_b
    refine Qb (Xi (by omega)) ?_
    unfold K197_5
    refine Xc (rfl) ?_
    unfold K197_6
    refine Qb (i1 _) ?_
    refine Qb (Q8 a1.2 ag32 rfl) ?_
    refine y_fcyl hx (hg x (List.mem_of_getElem? hxj) s _ e r1) fun v s' ⟨hv,e'⟩=>?_
    subst hv
    refine y_if (fun hp=>?_) (fun hp=>?_)
    · exact Qs ⟨by rw [V5 hxj hp hno],e.trans e'⟩
    · unfold K197_7
      refine Qb (Xy (by omega)) ?_
      exact hk _ ⟨e.trans e',fun i y hi hy=>by
        rcases Nat.lt_succ_iff_lt_or_eq.mp hi with h1 | rfl
        · exact hno i y h1 hy
        · rw [hxj] at hy; cases hy; exact hp⟩
  · obtain ⟨e,hno⟩:=hi
    rw [L197_4_succ]
    unfold L197_4_b
    refine Qb (Q4 (by omega)) ?_
    unfold K197_5
    refine Qx (rfl) ?_
    unfold Zv
    exact Qs ⟨by rw [V6 hno],e⟩
theorem cf175 {α:Type} {n:Nat} {σ:St} {tab:Tab} (ht:Fr tab) {ok:Nat→Prop} {l:List α} {f:α→DV} {p:α→Bool} {g:FuncId} {caps:List (Nat × Nat)} {cv:CV} (h:Rep ok σ cv (.sl 1 (l.map fun y=>[f y]))) (hl:l.length < 1000000) (hx:(C M).ext g = none)
    (hg:∀ x ∈ l,∀ (s:St) (c:CV),Gr σ s→Rep ok s c (f x)→Yl (Ql (C M) tab n g ([.one c] ++ Z0 caps) s) (fun v s'=>v = B (p x)∧Gr s s')) :
    Yl (Ql (C M) tab (n + 2) 175 [.one cv,.one (.func g caps)] σ) (fun v σ'=>v = B (l.any p)∧Gr σ σ'):=by
  refine Q3 (ht _ rfl) Tryz.func175 (by kernel_rfl) ?_
  rw [F175_eq]
  unfold K175_0
  refine V4 rfl (if197 ht h hl hx hg) fun v s ⟨hv,e⟩=>?_
  subst hv
  refine Qb (Wz) ?_
  exact Qs ⟨rfl,e⟩
theorem ix198 {n:Nat} {σ:St} {tab:Tab} (ht:Fr tab) {ok:Nat→Prop} {l:List Bool} {q:Bool} {cv:CV} (h:Rep ok σ cv (Zk l)) (hl:l.length < 1000000) :
    Ql (C M) tab (n + 1) 198 [.one cv,B q] σ = some (I (fIdx (fun x=>q == x) l),σ):=by
  refine Xf (ht _ rfl) Tryz.func198 (by kernel_rfl) ?_
  rw [F198_eq]
  refine Yl.eq ?_
  unfold K198_0
  unfold K198_1
  refine Qb (Qp un32 (h)) ?_
  unfold K198_3
  refine Yb (L:=fun f' j s=>L198_4 M (Ql (C M) tab n) f' (.one cv) (B q) (I (l.length:Nat)) (I (j:Nat)) s) (n:=l.length) (fun j s=>s = σ∧∀ i y,i < j→l[i]? = some y→(q == y) = false) (fun f' j s hj hi hk=>?_) (fun f' s hi=>?_) 0 M σ (by omega) (by unfold M; omega) ⟨rfl,fun i x hi=>by omega⟩
  · obtain ⟨rfl,hno⟩:=hi
    rw [L198_4_succ]
    obtain ⟨x,hxj⟩:=Q6 hj
    obtain ⟨b1,k1,c1,i1,a1,r1,_⟩:=Xg un32 sz4 h hxj
    obtain rfl:=r1.of_flat
    unfold L198_4_b
    refine Qb (Xi (by omega)) ?_
    unfold K198_5
    refine Xc (rfl) ?_
    unfold K198_6
    refine Qb (i1 _) ?_
    refine Qb (Q8 a1.2 ag4 rfl) ?_
    refine Qb (b_eql) ?_
    refine y_if (fun hp=>?_) (fun hp=>?_)
    · exact Qs ⟨by rw [V5 (p:=fun x=>q == x) hxj hp hno],rfl⟩
    · unfold K198_7
      refine Qb (Xy (by omega)) ?_
      exact hk _ ⟨rfl,fun i y hi hy=>by
        rcases Nat.lt_succ_iff_lt_or_eq.mp hi with h1 | rfl
        · exact hno i y h1 hy
        · rw [hxj] at hy; cases hy; exact hp⟩
  · obtain ⟨rfl,hno⟩:=hi
    rw [L198_4_succ]
    unfold L198_4_b
    refine Qb (Q4 (by omega)) ?_
    unfold K198_5
    refine Qx (rfl) ?_
    unfold Zw
    exact Qs ⟨by rw [V6 hno],rfl⟩
theorem ct178 {n:Nat} {σ:St} {tab:Tab} (ht:Fr tab) {ok:Nat→Prop} {l:List Bool} {q:Bool} {cv:CV} (h:Rep ok σ cv (Zk l)) (hl:l.length < 1000000) :
    Ql (C M) tab (n + 2) 178 [.one cv,B q] σ = some (B (l.any fun x=>q == x),σ):=by
  refine Xf (ht _ rfl) Tryz.func178 (by kernel_rfl) ?_
  rw [F178_eq]
  refine Yl.eq ?_
  unfold K178_0
  refine Xs rfl (ix198 ht h hl) ?_
  refine Qb (Wz) ?_
  exact Qs ⟨rfl,rfl⟩
end Core
end Go.Proofs.YtjfgdcegpgoobaaGreatDoor
namespace Go.Proofs.YtjfgdcegpgoobaaGreatDoor
open Go.Run Go
namespace Core
open Ty
set_option maxRecDepth 1000000
structure FewEls (x:Els):Prop where
  bk:x.buckets.length < 1000000
  en:∀ b ∈ x.buckets,b.ents.length < 1000000
  rows:Few x.rows
structure FewRad (x:Rad):Prop where
  bits:x.bits.length < 1000000
  rows:Few x.rows
structure FewUnv (x:Unv):Prop where
  lev:x.levels.length < 1000000
  each:∀ l ∈ x.levels,Few l.rows∧l.top.length < 1000000
structure FewSpr (x:Spr):Prop where
  rows:Few x.rows
  each:∀ r ∈ x.rows,∀ b ∈ r,Few b.rows
structure FewBnk (x:Bnk):Prop where
  rej:x.rejects.length < 1000000
  els:FewEls x.els
  rad:FewRad x.rad
  unv:FewUnv x.unv
  spr:FewSpr x.spr
section
variable {σ:St}
theorem ent_self {x:Ent}:Qi (C M) .neq 93 (.agg [.str ⟨⟨x.key⟩⟩,.int .i64 x.votes,.bool x.flag]) (.agg [.str ⟨⟨x.key⟩⟩,.int .i64 x.votes,.bool x.flag]) σ = .val (B false):=by
  have e:eqA (C M) 10000 93 (.agg [.str ⟨⟨x.key⟩⟩,.int .i64 x.votes,.bool x.flag]) (.agg [.str ⟨⟨x.key⟩⟩,.int .i64 x.votes,.bool x.flag]) = chainE [Vf (Q0 ⟨⟨x.key⟩⟩) (Q0 ⟨⟨x.key⟩⟩),Yp x.votes x.votes,x.flag == x.flag]:=by kernel_rfl
  have e2:=e.trans (chainE_true (by simp [Yd,Y8]))
  have g:(C M).P.eqGuardType (C M).P.depth 93 = false:=by kernel_rfl
  show (bif (C M).P.eqGuardType (C M).P.depth 93 then Out.no else match eqA (C M) 10000 93 _ _ with | some b=>boolV (notIf true b) | none=>.no) = _
  rw [g,e2]; rfl
theorem itm_self {x:Itm}:Qi (C M) .neq 110 (.agg [.str ⟨⟨x.key⟩⟩,.int .i64 x.count]) (.agg [.str ⟨⟨x.key⟩⟩,.int .i64 x.count]) σ = .val (B false):=by
  have e:eqA (C M) 10000 110 (.agg [.str ⟨⟨x.key⟩⟩,.int .i64 x.count]) (.agg [.str ⟨⟨x.key⟩⟩,.int .i64 x.count]) = chainE [Vf (Q0 ⟨⟨x.key⟩⟩) (Q0 ⟨⟨x.key⟩⟩),Yp x.count x.count]:=by kernel_rfl
  have e2:=e.trans (chainE_true (by simp [Yd,Y8]))
  have g:(C M).P.eqGuardType (C M).P.depth 110 = false:=by kernel_rfl
  show (bif (C M).P.eqGuardType (C M).P.depth 110 then Out.no else match eqA (C M) 10000 110 _ _ with | some b=>boolV (notIf true b) | none=>.no) = _
  rw [g,e2]; rfl
theorem ent_cells {ok:Nat→Prop} {cs:List CV} {x:Ent} (h:RepL ok σ cs x.d):cs = [.str ⟨⟨x.key⟩⟩,.int .i64 x.votes,.bool x.flag]:=by
  obtain ⟨_,_,_,rfl,h1,h2,h3⟩:=rl3 h
  obtain rfl:=h1.of_flat
  obtain rfl:=h2.of_flat
  obtain rfl:=h3.of_flat
  rfl
theorem itm_cells {ok:Nat→Prop} {cs:List CV} {x:Itm} (h:RepL ok σ cs x.d):cs = [.str ⟨⟨x.key⟩⟩,.int .i64 x.count]:=by
  obtain ⟨_,_,rfl,h1,h2⟩:=rl2 h
  obtain rfl:=h1.of_flat
  obtain rfl:=h2.of_flat
  rfl
theorem cel_cells {ok:Nat→Prop} {cs:List CV} {x:Cel} (h:RepL ok σ cs x.d):cs = [.str ⟨⟨x.xor⟩⟩,.int .i64 x.flows,.int .i64 x.packets,.int .i64 x.bytes]:=by
  obtain ⟨_,_,_,_,rfl,h1,h2,h3,h4⟩:=rl4 h
  obtain rfl:=h1.of_flat
  obtain rfl:=h2.of_flat
  obtain rfl:=h3.of_flat
  obtain rfl:=h4.of_flat
  rfl
end
theorem same_items {n:Nat} {σ:St} {tab:Tab} (ht:Fr tab) {ok1 ok2:Nat→Prop} {a b:CV} {l:List Itm} (ha:Rep ok1 σ a (.sl 2 (l.map Itm.d))) (hb:Rep ok2 σ b (.sl 2 (l.map Itm.d))) (hf:l.length < 1000000) :
    Ql (C M) tab (n + 1) 46 [.one a,.one b] σ = some (B true,σ):=by
  refine Xf (ht _ rfl) Tryz.func46 (by kernel_rfl) ?_
  rw [F46_eq]
  refine Yl.eq ?_
  unfold K46_0
  unfold K46_1
  refine Qb (Qp un105 (ha)) ?_
  refine Qb (Qp un105 (hb)) ?_
  refine Qb (Xd (by omega)) ?_
  refine Qx (rfl) ?_
  unfold K46_2 K46_4
  refine Yb (L:=fun f j σ=>L46_5 M (Ql (C M) tab n) f (.one a) (.one b) (I (j:Nat)) σ) (n:=l.length) (fun _ σ'=>σ' = σ) (fun f j σ' hj hi hk=>?_) (fun f σ' hi=>?_) 0 M σ (by omega) (by unfold M; omega) rfl
  · subst hi
    rw [L46_5_succ]
    obtain ⟨r,hr⟩:=Q6 hj
    obtain ⟨b1,k1,c1,i1,a1,r1,_⟩:=Yq un105 sz110 ha hr
    obtain ⟨b2,k2,c2,i2,a2,r2,_⟩:=Yq un105 sz110 hb hr
    obtain rfl:=itm_cells r1
    obtain rfl:=itm_cells r2
    unfold L46_5_b
    refine Qb (Qp un105 (ha)) ?_
    refine Qb (Xi (by omega)) ?_
    refine Xc (rfl) ?_
    unfold K46_6
    refine X0 ?_
    refine Qf (i1 _) ?_
    refine Qj (Q7 a1.2 ag110 sz110 rfl) rfl ?_
    refine Qf (i2 _) ?_
    refine Qj (Q7 a2.2 ag110 sz110 rfl) rfl ?_
    refine Qf (itm_self) ?_
    refine Qx (rfl) ?_
    unfold K46_7
    refine Qb (Xy (by omega)) ?_
    exact hk _ rfl
  · subst hi
    rw [L46_5_succ]
    unfold L46_5_b
    refine Qb (Qp un105 (ha)) ?_
    refine Qb (Q4 (by omega)) ?_
    refine Qx (rfl) ?_
    unfold Jt
    exact Qs ⟨rfl,rfl⟩
theorem eq16 {n:Nat} {σ:St} {tab:Tab} (ht:Fr tab) {ok1 ok2:Nat→Prop} {ca cb:List CV} {x:Rad} (ha:RepL ok1 σ ca x.d) (hb:RepL ok2 σ cb x.d) (hf:FewRad x) :
    Yl (Ql (C M) tab (n + 2) 19 [.agg ca,.agg cb] σ) (fun v σ'=>v = B true∧Gr σ σ'):=by
  obtain ⟨_,_,_,y4,y5,rfl,h1,h2,h3,h4,ra⟩:=rl5 ha
  obtain rfl:=h1.of_flat
  obtain rfl:=h2.of_flat
  obtain rfl:=h3.of_flat
  obtain ⟨_,_,_,z4,z5,rfl,h1,h2,h3,h5,rb⟩:=rl5 hb
  obtain rfl:=h1.of_flat
  obtain rfl:=h2.of_flat
  obtain rfl:=h3.of_flat
  refine Q3 (ht _ rfl) Tryz.func19 (by kernel_rfl) ?_
  rw [F19_eq]
  unfold K19_0
  refine Yn fun σ1 b1 e1 a1 _=>Yn fun σ2 b2 e2 a2 _=>?_
  have e:=e1.trans e2
  replace a1:=a1.ext e2
  have f1:RepL ok1 σ2 [.int .u64 x.fseed,.int .i64 x.hashes,y4] [dW x.fseed,dI x.hashes,Zk x.bits]:=.cons (.flat rfl) (.cons (.flat rfl) (.cons (h4.ext e) .nil))
  have f2:RepL ok2 σ2 [.int .u64 x.fseed,.int .i64 x.hashes,z4] [dW x.fseed,dI x.hashes,Zk x.bits]:=.cons (.flat rfl) (.cons (.flat rfl) (.cons (h5.ext e) .nil))
  obtain ⟨_,σ3,q,rfl,e3⟩:=eq10 (n:=n) ht f1 f2 hf.bits
  unfold K19_1
  refine Qb (fa58_0) ?_
  refine Qb (Qg a1.2 Zf rfl) ?_
  refine Qb (fa58_0) ?_
  refine Qb (Qg a2.2 Zf rfl) ?_
  refine Qb (u_neqF (by omega)) ?_
  refine Qb (Qe (fa58_1)) ?_
  refine Qb (Qe (Xt a1.2 ag55 sz55 rfl)) ?_
  refine Qb (Qe (fa58_1)) ?_
  refine Qb (Qe (Xt a2.2 ag55 sz55 rfl)) ?_
  refine V8 rfl rfl (q) ?_
  refine Qb (Qe (Va)) ?_
  refine Qb (rfl) ?_
  replace a1:=a1.ext e3
  replace a2:=a2.ext e3
  replace e:=e.trans e3
  replace ra:=ra.ext e
  replace rb:=rb.ext e
  have h1:=hf.rows.1
  refine Qb (Qe (Nh)) ?_
  refine Qb (Qe (Qg a1.2 ag56 rfl)) ?_
  refine Qb (Qe (Qp un56 (ra))) ?_
  refine Qb (Qe (Nh)) ?_
  refine Qb (Qe (Qg a2.2 ag56 rfl)) ?_
  refine Qb (Qe (Qp un56 (rb))) ?_
  refine Qb (Qe (Xd (by omega))) ?_
  refine Qb (rfl) ?_
  refine Qx (rfl) ?_
  unfold K19_2 K19_4
  refine Yb (L:=fun f j σ=>L19_5 M (Ql (C M) tab (n + 1)) f (P b1 0) (P b2 0) (I (j:Nat)) σ) (n:=x.rows.length) (fun _ s=>s = σ3) (fun f j σ' hj hi hk=>?_) (fun f σ' hi=>?_) 0 M σ3 (by omega) (by unfold M; omega) rfl
  · subst hi
    rw [L19_5_succ]
    obtain ⟨r,hr⟩:=Q6 hj
    obtain ⟨b3,k3,x3,i3,a3,r3,_⟩:=Xg un56 sz95 ra hr
    obtain ⟨b4,k4,x4,i4,a4,r4,_⟩:=Xg un56 sz95 rb hr
    have h2:=hf.rows.2 r (List.mem_of_getElem? hr)
    unfold L19_5_b
    refine Qb (Nh) ?_
    refine Qb (Qg a1.2 ag56 rfl) ?_
    refine Qb (Qp un56 (ra)) ?_
    refine Qb (Xi (by omega)) ?_
    refine Xc (rfl) ?_
    unfold K19_6
    refine X0 ?_
    refine Qf (Nh) ?_
    refine Qj (Qg a1.2 ag56 rfl) rfl ?_
    refine Qf (i3 _) ?_
    refine Qj (Q8 a3.2 ag95 rfl) rfl ?_
    refine Qj (Qp un95 (r3)) rfl ?_
    refine Qf (Nh) ?_
    refine Qj (Qg a2.2 ag56 rfl) rfl ?_
    refine Qf (i4 _) ?_
    refine Qj (Q8 a4.2 ag95 rfl) rfl ?_
    refine Qj (Qp un95 (r4)) rfl ?_
    refine Qf (Xd (by omega)) ?_
    refine Qx (rfl) ?_
    unfold K19_8 K19_9
    refine Yb (L:=fun f' i σ=>L19_10 M (Ql (C M) tab (n + 1)) (L19_5 M (Ql (C M) tab (n + 1)) f) f' (P b1 0) (P b2 0) (I (j:Nat)) (I (i:Nat)) σ) (n:=r.length) (fun _ s=>s = σ') (fun f' i s hi' hs hk'=>?_) (fun f' s hs=>?_) 0 M σ' (by omega) (by unfold M; omega) rfl
    · subst hs
      rw [L19_10_succ]
      obtain ⟨z,hz⟩:=Q6 hi'
      obtain ⟨b5,k5,x5,i5,a5,r5,_⟩:=Yq un95 sz98 r3 hz
      obtain ⟨b6,k6,x6,i6,a6,r6,_⟩:=Yq un95 sz98 r4 hz
      obtain rfl:=cel_cells r5
      obtain rfl:=cel_cells r6
      unfold L19_10_b
      refine Qb (Nh) ?_
      refine Qb (Qg a1.2 ag56 rfl) ?_
      refine Qb (i3 _) ?_
      refine Qb (Q8 a3.2 ag95 rfl) ?_
      refine Qb (Qp un95 (r3)) ?_
      refine Qb (Xi (by omega)) ?_
      refine Xc (rfl) ?_
      unfold K19_11
      refine X0 ?_
      refine Qf (Nh) ?_
      refine Qj (Qg a1.2 ag56 rfl) rfl ?_
      refine Qf (i3 _) ?_
      refine Qj (Q8 a3.2 ag95 rfl) rfl ?_
      refine Qf (i5 _) ?_
      refine Qj (Q7 a5.2 ag98 sz98 rfl) rfl ?_
      refine Qf (Nh) ?_
      refine Qj (Qg a2.2 ag56 rfl) rfl ?_
      refine Qf (i4 _) ?_
      refine Qj (Q8 a4.2 ag95 rfl) rfl ?_
      refine Qf (i6 _) ?_
      refine Qj (Q7 a6.2 ag98 sz98 rfl) rfl ?_
      refine Qf (cel_self) ?_
      refine Qx (rfl) ?_
      unfold K19_12
      refine Qb (Xy (by omega)) ?_
      exact hk' _ rfl
    · subst hs
      rw [L19_10_succ]
      unfold L19_10_b
      refine Qb (Nh) ?_
      refine Qb (Qg a1.2 ag56 rfl) ?_
      refine Qb (i3 _) ?_
      refine Qb (Q8 a3.2 ag95 rfl) ?_
      refine Qb (Qp un95 (r3)) ?_
      refine Qb (Q4 (by omega)) ?_
      refine Qx (rfl) ?_
      unfold Yu
      refine Qb (Xy (by omega)) ?_
      exact hk _ rfl
  · subst hi
    rw [L19_5_succ]
    unfold L19_5_b
    refine Qb (Nh) ?_
    refine Qb (Qg a1.2 ag56 rfl) ?_
    refine Qb (Qp un56 (ra)) ?_
    refine Qb (Q4 (by omega)) ?_
    refine Qx (rfl) ?_
    unfold Yt
    exact Qs ⟨rfl,e⟩
end Core
end Go.Proofs.YtjfgdcegpgoobaaGreatDoor
namespace Go.Proofs.YtjfgdcegpgoobaaGreatDoor
open Go.Run Go
namespace Core
open Ty
set_option maxRecDepth 1000000
section
variable {cx:Cx} {call:Qd} {t:TypeId} {σ σ':St} {o:St→Out} {Q:AV→St→Prop} {v:AV} {b:Blk} {f:Nat→AV} {cs z:List CV}
theorem y_dgc {k:AV→St→Kt} {w:Option Bool} {g:FuncId} {args:List AV} (hw:w = some true) (hx:cx.ext g = none) (h:call g args σ = some (v,σ')) (hk:Yl (k v σ' σ') Q):Yl (Xn (gdO w (Qy cx call (fnV g) args)) k σ) Q:=by
  subst hw; exact Vd hx h hk
theorem y_atn {n:Nat} {k:Nat→Kt} (h:∀ s a,Gr σ s→s.next = σ.next + n→a = σ.next→Yl (k a s) Q):Yl (atN n k σ) Q:=y_at (h _ _ (Gr.gap _ _) rfl rfl)
theorem y_dnw {p:Nat} {k:AV→Kt} (h:o σ = .new b f) (hk:∀ s,s.next = σ.next→s.get p = some b→(∀ i,i ≠ p→s.get i = σ.get i)→Yl (k (f p) s) Q):Yl (Vw o p k σ) Q:=
  Nf h (hk _ rfl (by rw [St.get_lay,if_pos rfl]) fun i hi=>by rw [St.get_lay,if_neg hi])
theorem st_at {p:Nat} (g:σ.get p = some (.cells z t true)) (hz:z.length = cs.length) (hs:size (C M) t = some cs.length) (hp:p < σ.next):∃ s,stO (C M) t (P p 0) (.agg cs) σ = .st (.tup []) s∧s.next = σ.next∧At s p 0 cs∧∀ i,i ≠ p→s.get i = σ.get i:=by
  refine ⟨_,X1 (l':=cs) g rfl hs (by rw [Yx]) ?_,rfl,⟨hp,Lies.of (by rw [St.get_put,if_pos rfl])⟩,fun i hi=>by rw [St.get_put,if_neg hi]⟩
  have:=Ji cs z [] hz.symm
  simpa using this
theorem Y1 {w:Option Bool} {s1 s2:St} {k:AV→Kt} (hw:w = some true) (h:o σ = .val v) (h1:o s1 = .val v) (h2:o s2 = .val v) (hv:okV v = true) (hk:Yl (k v σ) Q):Yl (Ze w o (fun x=>Xk o x s1 && (Xk o x s2 && true)) k σ) Q:=
  Vl hw h (by show (Xk o v s1 && (Xk o v s2 && true)) = true; rw [Yk h1 hv,Yk h2 hv]; rfl) hk
theorem na {a i:Nat}:Nat.add a i = a + i:=rfl
end
theorem ne90 {σ:St}:Xe (C M) 90 σ = .new (.cells [.slice none 0 (.ex 0),.int .i64 0] 90 true) (fun a=>P a 0):=by kernel_rfl
theorem ne120 {σ:St}:Xe (C M) 120 σ = .new (.cells [.int .u64 0,.slice none 0 (.ex 0),.str ⟨⟨[]⟩⟩,.int .i64 0] 120 true) (fun a=>P a 0):=by kernel_rfl
theorem eq15 {n:Nat} {σ:St} {tab:Tab} (ht:Fr tab) {ok1 ok2:Nat→Prop} {ca cb:List CV} {x:Els} (ha:RepL ok1 σ ca x.d) (hb:RepL ok2 σ cb x.d) (hf:FewEls x) :
    Yl (Ql (C M) tab (n + 3) 18 [.agg ca,.agg cb] σ) (fun v σ'=>v = B true∧Gr σ σ'):=by
  obtain ⟨_,_,_,y4,_,_,y7,rfl,h1,h2,h3,ra,h5,h6,r7⟩:=rl7 ha
  obtain rfl:=h1.of_flat
  obtain rfl:=h2.of_flat
  obtain rfl:=h3.of_flat
  obtain rfl:=h5.of_flat
  obtain rfl:=h6.of_flat
  obtain ⟨_,_,_,z4,_,_,z7,rfl,h1,h2,h3,rb,h5,h6,s7⟩:=rl7 hb
  obtain rfl:=h1.of_flat
  obtain rfl:=h2.of_flat
  obtain rfl:=h3.of_flat
  obtain rfl:=h5.of_flat
  obtain rfl:=h6.of_flat
  refine Q3 (ht _ rfl) Tryz.func18 (by kernel_rfl) ?_
  rw [F18_eq]
  unfold K18_0
  refine Yn fun σ1 b1 e1 a1 _=>Yn fun σ2 b2 e2 a2 _=>?_
  have e:=e1.trans e2
  replace a1:=a1.ext e2
  have f1:RepL ok1 σ2 [.int .u64 x.lseed,.int .i64 x.most,y7] [dW x.lseed,dI x.most,V1 x.rows]:=.cons (.flat rfl) (.cons (.flat rfl) (.cons (r7.ext e) .nil))
  have f2:RepL ok2 σ2 [.int .u64 x.lseed,.int .i64 x.most,z7] [dW x.lseed,dI x.most,V1 x.rows]:=.cons (.flat rfl) (.cons (.flat rfl) (.cons (s7.ext e) .nil))
  replace ra:=ra.ext e
  replace rb:=rb.ext e
  have h1:=hf.bk
  obtain ⟨_,σ3,q,rfl,e3⟩:=eq11 (n:=n) ht f1 f2 hf.rows
  unfold K18_1
  refine Qb (fa54_0) ?_
  refine Qb (Qg a1.2 Zf rfl) ?_
  refine Qb (fa54_0) ?_
  refine Qb (Qg a2.2 Zf rfl) ?_
  refine Qb (u_neqF (by omega)) ?_
  refine Qb (Qe (fa54_1)) ?_
  refine Qb (Qe (Qg a1.2 ag3 rfl)) ?_
  refine Qb (Qe (fa54_1)) ?_
  refine Qb (Qe (Qg a2.2 ag3 rfl)) ?_
  refine Qb (Qe (Xd (by omega))) ?_
  refine Qb (rfl) ?_
  refine Qb (Qe (fa54_2)) ?_
  refine Qb (Qe (Qg a1.2 ag3 rfl)) ?_
  refine Qb (Qe (fa54_2)) ?_
  refine Qb (Qe (Qg a2.2 ag3 rfl)) ?_
  refine Qb (Qe (Xd (by omega))) ?_
  refine Qb (rfl) ?_
  refine Qb (Qe (fa54_3)) ?_
  refine Qb (Qe (Qg a1.2 ag51 rfl)) ?_
  refine Qb (Qe (Qp un51 (ra))) ?_
  refine Qb (Qe (fa54_3)) ?_
  refine Qb (Qe (Qg a2.2 ag51 rfl)) ?_
  refine Qb (Qe (Qp un51 (rb))) ?_
  refine Qb (Qe (Xd (by omega))) ?_
  refine Qb (rfl) ?_
  refine Qb (Qe (fa54_4)) ?_
  refine Qb (Qe (Xt a1.2 ag52 sz52 rfl)) ?_
  refine Qb (Qe (fa54_4)) ?_
  refine Qb (Qe (Xt a2.2 ag52 sz52 rfl)) ?_
  refine V8 rfl rfl (q) ?_
  refine Qb (Qe (Va)) ?_
  refine Qb (rfl) ?_
  refine Qx (rfl) ?_
  replace a1:=a1.ext e3
  replace a2:=a2.ext e3
  replace e:=e.trans e3
  replace ra:=ra.ext e3
  replace rb:=rb.ext e3
  unfold K18_2 K18_4
  refine Yb (L:=fun f j σ=>L18_5 M (Ql (C M) tab (n + 2)) f (P b1 0) (P b2 0) (I (j:Nat)) σ) (n:=x.buckets.length) (fun _ s=>Gr σ3 s) (fun f j σ' hj hi hk=>?_) (fun f σ' hi=>?_) 0 M σ3 (by omega) (by unfold M; omega) (Gr.refl _)
  · rw [L18_5_succ]
    obtain ⟨r,hr⟩:=Q6 hj
    obtain ⟨b3,k3,c3,i3,a3,r3,_⟩:=Yq un51 sz90 (ra.ext hi) hr
    obtain ⟨b4,k4,c4,i4,a4,r4,_⟩:=Yq un51 sz90 (rb.ext hi) hr
    obtain ⟨x3,_,rfl,u3,h⟩:=rl2 r3
    obtain rfl:=h.of_flat
    obtain ⟨x4,_,rfl,u4,h⟩:=rl2 r4
    obtain rfl:=h.of_flat
    have h2:=hf.en r (List.mem_of_getElem? hr)
    have a1':=a1.ext hi
    have a2':=a2.ext hi
    unfold L18_5_b
    refine Qb (fa54_3) ?_
    refine Qb (Qg a1'.2 ag51 rfl) ?_
    refine Qb (Qp un51 ((ra.ext hi))) ?_
    refine Qb (Xi (by omega)) ?_
    refine Xc (rfl) ?_
    unfold K18_6
    refine y_atn fun s0 a e0 n0 ha=>X0 ?_
    refine Qf (fa54_3) ?_
    refine Qj (Qg (a1'.ext e0).2 ag51 rfl) rfl ?_
    refine Qf (i3 _) ?_
    refine Qj (Q7 (a3.ext e0).2 ag90 sz90 rfl) rfl ?_
    refine y_dnw ne90 fun s1 n1 g1 o1=>y_dnw ne90 fun s2 n2 g2 o2=>?_
    simp only [na] at g1 o1 g2 o2 ⊢
    have e2:Gr σ' s2:=⟨by omega,fun i hi=>by rw [o2 i (by omega),o1 i (by omega)]; exact e0.2 i hi⟩
    obtain ⟨s3,q3,n3,a5,o3⟩:=st_at (cs:=[x3,.int .i64 r.against]) ((o2 (a + 10) (by omega)).trans g1) rfl sz90 (by omega)
    refine X7 q3 ?_
    have e4:Gr σ' s3:=⟨by omega,fun i hi=>by rw [o3 i (by omega)]; exact e2.2 i hi⟩
    refine Qf (fa54_3) ?_
    refine Y1 rfl (Qg (a2'.ext e4).2 ag51 rfl) (Qg (a2'.ext e4).2 ag51 rfl) (Qg (a2'.ext e0).2 ag51 rfl) rfl ?_
    refine Qf (i4 _) ?_
    refine Y1 rfl (Q7 (a4.ext e4).2 ag90 sz90 rfl) (Q7 (a4.ext e4).2 ag90 sz90 rfl) (Q7 (a4.ext e0).2 ag90 sz90 rfl) rfl ?_
    obtain ⟨s4,q4,n4,a6,o4⟩:=st_at (cs:=[x4,.int .i64 r.against]) ((o3 (a + 11) (by omega)).trans g2) rfl sz90 (by omega)
    refine X7 q4 ?_
    have e5:Gr σ' s4:=⟨by omega,fun i hi=>by rw [o4 i (by omega)]; exact e4.2 i hi⟩
    have a5:At s4 (a + 10) 0 _:=⟨by omega,a5.2.to (o4 _ (by omega))⟩
    replace u3:=u3.ext e5
    replace u4:=u4.ext e5
    unfold K18_8
    refine Qb (fa90_1) ?_
    refine Qb (Qg a5.2 ag3 rfl) ?_
    refine Qb (fa90_1) ?_
    refine Qb (Qg a6.2 ag3 rfl) ?_
    refine Qb (Xd (by omega)) ?_
    refine Qb (Qe (fa90_0)) ?_
    refine Qb (Qe (Qg a5.2 ag88 rfl)) ?_
    refine Qb (Qe (Qp un88 (u3))) ?_
    refine Qb (Qe (fa90_0)) ?_
    refine Qb (Qe (Qg a6.2 ag88 rfl)) ?_
    refine Qb (Qe (Qp un88 (u4))) ?_
    refine Qb (Qe (Xd (by omega))) ?_
    refine Qb (rfl) ?_
    refine Qx (rfl) ?_
    unfold K18_9 K18_10
    refine Yb (L:=fun f' i σ=>L18_11 M (Ql (C M) tab (n + 2)) (L18_5 M (Ql (C M) tab (n + 2)) f) f' (P b1 0) (P b2 0) (I (j:Nat)) (P (a + 10) 0) (P (a + 11) 0) (I (i:Nat)) σ) (n:=r.ents.length) (fun _ s=>s = s4) (fun f' i s hi' hs hk'=>?_) (fun f' s hs=>?_) 0 M s4 (by omega) (by unfold M; omega) rfl
    · subst hs
      rw [L18_11_succ]
      obtain ⟨z,hz⟩:=Q6 hi'
      obtain ⟨b5,k5,c5,i5,a7,r5,_⟩:=Yq un88 sz93 u3 hz
      obtain ⟨b6,k6,c6,i6,a8,r6,_⟩:=Yq un88 sz93 u4 hz
      obtain rfl:=ent_cells r5
      obtain rfl:=ent_cells r6
      unfold L18_11_b
      refine Qb (fa90_0) ?_
      refine Qb (Qg a5.2 ag88 rfl) ?_
      refine Qb (Qp un88 (u3)) ?_
      refine Qb (Xi (by omega)) ?_
      refine Xc (rfl) ?_
      unfold K18_12
      refine X0 ?_
      refine Qf (fa90_0) ?_
      refine Qj (Qg a5.2 ag88 rfl) rfl ?_
      refine Qf (i5 _) ?_
      refine Qj (Q7 a7.2 ag93 sz93 rfl) rfl ?_
      refine Qf (fa90_0) ?_
      refine Qj (Qg a6.2 ag88 rfl) rfl ?_
      refine Qf (i6 _) ?_
      refine Qj (Q7 a8.2 ag93 sz93 rfl) rfl ?_
      refine Qf (ent_self) ?_
      refine Qx (rfl) ?_
      unfold K18_13
      refine Qb (Xy (by omega)) ?_
      exact hk' _ rfl
    · subst hs
      rw [L18_11_succ]
      unfold L18_11_b
      refine Qb (fa90_0) ?_
      refine Qb (Qg a5.2 ag88 rfl) ?_
      refine Qb (Qp un88 (u3)) ?_
      refine Qb (Q4 (by omega)) ?_
      refine Qx (rfl) ?_
      unfold X8
      refine Qb (Xy (by omega)) ?_
      exact hk _ (hi.trans e5)
  · rw [L18_5_succ]
    unfold L18_5_b
    refine Qb (fa54_3) ?_
    refine Qb (Qg (a1.ext hi).2 ag51 rfl) ?_
    refine Qb (Qp un51 ((ra.ext hi))) ?_
    refine Qb (Q4 (by omega)) ?_
    refine Qx (rfl) ?_
    unfold Yg
    exact Qs ⟨rfl,e.trans hi⟩
theorem eq18 {n:Nat} {σ:St} {tab:Tab} (ht:Fr tab) {ok1 ok2:Nat→Prop} {ca cb:List CV} {x:Unv} (ha:RepL ok1 σ ca x.d) (hb:RepL ok2 σ cb x.d) (hf:FewUnv x) :
    Yl (Ql (C M) tab (n + 3) 20 [.agg ca,.agg cb] σ) (fun v σ'=>v = B true∧Gr σ σ'):=by
  obtain ⟨_,_,y3,rfl,h1,h2,ra⟩:=rl3 ha
  obtain rfl:=h1.of_flat
  obtain rfl:=h2.of_flat
  obtain ⟨_,_,z3,rfl,h1,h2,rb⟩:=rl3 hb
  obtain rfl:=h1.of_flat
  obtain rfl:=h2.of_flat
  refine Q3 (ht _ rfl) Tryz.func20 (by kernel_rfl) ?_
  rw [F20_eq]
  unfold K20_0
  refine Yn fun σ1 b1 e1 a1 _=>Yn fun σ2 b2 e2 a2 _=>?_
  have e:=e1.trans e2
  replace a1:=a1.ext e2
  replace ra:=ra.ext e
  replace rb:=rb.ext e
  have h1:=hf.lev
  unfold K20_1
  refine Qb (fa61_0) ?_
  refine Qb (Qg a1.2 Zf rfl) ?_
  refine Qb (fa61_0) ?_
  refine Qb (Qg a2.2 Zf rfl) ?_
  refine Qb (u_neqF (by omega)) ?_
  refine Qb (Qe (fa61_1)) ?_
  refine Qb (Qe (Qg a1.2 ag3 rfl)) ?_
  refine Qb (Qe (fa61_1)) ?_
  refine Qb (Qe (Qg a2.2 ag3 rfl)) ?_
  refine Qb (Qe (Xd (by omega))) ?_
  refine Qb (rfl) ?_
  refine Qb (Qe (fa61_2)) ?_
  refine Qb (Qe (Qg a1.2 ag59 rfl)) ?_
  refine Qb (Qe (Qp un59 (ra))) ?_
  refine Qb (Qe (fa61_2)) ?_
  refine Qb (Qe (Qg a2.2 ag59 rfl)) ?_
  refine Qb (Qe (Qp un59 (rb))) ?_
  refine Qb (Qe (Xd (by omega))) ?_
  refine Qb (rfl) ?_
  refine Qx (rfl) ?_
  unfold K20_2 K20_4
  refine Yb (L:=fun f j σ=>L20_5 M (Ql (C M) tab (n + 2)) f (P b1 0) (P b2 0) (I (j:Nat)) σ) (n:=x.levels.length) (fun _ s=>Gr σ2 s) (fun f j σ' hj hi hk=>?_) (fun f σ' hi=>?_) 0 M σ2 (by omega) (by unfold M; omega) (Gr.refl _)
  · rw [L20_5_succ]
    obtain ⟨r,hr⟩:=Q6 hj
    obtain ⟨b3,k3,c3,i3,a3,r3,_⟩:=Yq un59 sz107 (ra.ext hi) hr
    obtain ⟨b4,k4,c4,i4,a4,r4,_⟩:=Yq un59 sz107 (rb.ext hi) hr
    obtain ⟨_,p3,q3,rfl,h,g3,u3⟩:=rl3 r3
    obtain rfl:=h.of_flat
    obtain ⟨_,p4,q4,rfl,h,g4,u4⟩:=rl3 r4
    obtain rfl:=h.of_flat
    obtain ⟨w1,w2⟩:=hf.each r (List.mem_of_getElem? hr)
    have a1':=a1.ext hi
    have a2':=a2.ext hi
    obtain ⟨_,σ3,q,rfl,e3⟩:=eq12 (n:=n) (ca:=[.int .u64 r.seed,p3]) (cb:=[.int .u64 r.seed,p4]) ht (.cons (.flat rfl) (.cons g3 .nil)) (.cons (.flat rfl) (.cons g4 .nil)) w1
    unfold L20_5_b
    refine Qb (fa61_2) ?_
    refine Qb (Qg a1'.2 ag59 rfl) ?_
    refine Qb (Qp un59 ((ra.ext hi))) ?_
    refine Qb (Xi (by omega)) ?_
    refine Xc (rfl) ?_
    unfold K20_6
    refine X0 ?_
    refine Qf (fa61_2) ?_
    refine Qj (Qg a1'.2 ag59 rfl) rfl ?_
    refine Qf (i3 _) ?_
    refine Qf (fa107_0) ?_
    refine Qj (Xt a3.2 ag104 sz104 rfl) rfl ?_
    refine Qf (fa61_2) ?_
    refine Qj (Qg a2'.2 ag59 rfl) rfl ?_
    refine Qf (i4 _) ?_
    refine Qf (fa107_0) ?_
    refine Qj (Xt a4.2 ag104 sz104 rfl) rfl ?_
    refine Vd rfl (q) ?_
    refine Qf (Va) ?_
    refine Qf (Qe (fa61_2)) ?_
    refine Qj (Qe (Qg (a1'.ext e3).2 ag59 rfl)) rfl ?_
    refine Qf (Qe (rfl)) ?_
    refine Qf (Qe (i3 _)) ?_
    refine Qf (Qe (fa107_1)) ?_
    refine Qj (Qe (Qg (a3.ext e3).2 ag105 rfl)) rfl ?_
    refine Qf (Qe (fa61_2)) ?_
    refine Qj (Qe (Qg (a2'.ext e3).2 ag59 rfl)) rfl ?_
    refine Qf (Qe (rfl)) ?_
    refine Qf (Qe (i4 _)) ?_
    refine Qf (Qe (fa107_1)) ?_
    refine Qj (Qe (Qg (a4.ext e3).2 ag105 rfl)) rfl ?_
    refine y_dgc rfl rfl (same_items (n:=n + 1) ht (u3.ext e3) (u4.ext e3) w2) ?_
    refine Qf (Qe (Va)) ?_
    refine Qf (rfl) ?_
    refine Qx (rfl) ?_
    unfold K20_7
    refine Qb (Xy (by omega)) ?_
    exact hk _ (hi.trans e3)
  · rw [L20_5_succ]
    unfold L20_5_b
    refine Qb (fa61_2) ?_
    refine Qb (Qg (a1.ext hi).2 ag59 rfl) ?_
    refine Qb (Qp un59 ((ra.ext hi))) ?_
    refine Qb (Q4 (by omega)) ?_
    refine Qx (rfl) ?_
    unfold Js
    exact Qs ⟨rfl,e.trans hi⟩
theorem eq19 {n:Nat} {σ:St} {tab:Tab} (ht:Fr tab) {ok1 ok2:Nat→Prop} {ca cb:List CV} {x:Spr} (ha:RepL ok1 σ ca x.d) (hb:RepL ok2 σ cb x.d) (hf:FewSpr x) :
    Yl (Ql (C M) tab (n + 2) 21 [.agg ca,.agg cb] σ) (fun v σ'=>v = B true∧Gr σ σ'):=by
  obtain ⟨_,y3,rfl,h1,ra⟩:=rl2 ha
  obtain rfl:=h1.of_flat
  obtain ⟨_,z3,rfl,h1,rb⟩:=rl2 hb
  obtain rfl:=h1.of_flat
  refine Q3 (ht _ rfl) Tryz.func21 (by kernel_rfl) ?_
  rw [F21_eq]
  unfold K21_0
  refine Yn fun σ1 b1 e1 a1 _=>Yn fun σ2 b2 e2 a2 _=>?_
  have e:=e1.trans e2
  replace a1:=a1.ext e2
  replace ra:=ra.ext e
  replace rb:=rb.ext e
  have h1:=hf.rows.1
  unfold K21_1
  refine Qb (fa64_0) ?_
  refine Qb (Qg a1.2 Zf rfl) ?_
  refine Qb (fa64_0) ?_
  refine Qb (Qg a2.2 Zf rfl) ?_
  refine Qb (u_neqF (by omega)) ?_
  refine Qb (Qe (Ni)) ?_
  refine Qb (Qe (Qg a1.2 ag62 rfl)) ?_
  refine Qb (Qe (Qp un62 (ra))) ?_
  refine Qb (Qe (Ni)) ?_
  refine Qb (Qe (Qg a2.2 ag62 rfl)) ?_
  refine Qb (Qe (Qp un62 (rb))) ?_
  refine Qb (Qe (Xd (by omega))) ?_
  refine Qb (rfl) ?_
  refine Qx (rfl) ?_
  unfold K21_2 K21_4
  refine Yb (L:=fun f j σ=>L21_5 M (Ql (C M) tab (n + 1)) f (P b1 0) (P b2 0) (I (j:Nat)) σ) (n:=x.rows.length) (fun _ s=>Gr σ2 s) (fun f j σ' hj hi hk=>?_) (fun f σ' hi=>?_) 0 M σ2 (by omega) (by unfold M; omega) (Gr.refl _)
  · rw [L21_5_succ]
    obtain ⟨r,hr⟩:=Q6 hj
    obtain ⟨b3,k3,x3,i3,a3,r3,_⟩:=Xg un62 sz112 (ra.ext hi) hr
    obtain ⟨b4,k4,x4,i4,a4,r4,_⟩:=Xg un62 sz112 (rb.ext hi) hr
    have h2:=hf.rows.2 r (List.mem_of_getElem? hr)
    have a1':=a1.ext hi
    have a2':=a2.ext hi
    unfold L21_5_b
    refine Qb (Ni) ?_
    refine Qb (Qg a1'.2 ag62 rfl) ?_
    refine Qb (Qp un62 ((ra.ext hi))) ?_
    refine Qb (Xi (by omega)) ?_
    refine Xc (rfl) ?_
    unfold K21_6
    refine X0 ?_
    refine Qf (Ni) ?_
    refine Qj (Qg a1'.2 ag62 rfl) rfl ?_
    refine Qf (i3 _) ?_
    refine Qj (Q8 a3.2 ag112 rfl) rfl ?_
    refine Qj (Qp un112 (r3)) rfl ?_
    refine Qf (Ni) ?_
    refine Qj (Qg a2'.2 ag62 rfl) rfl ?_
    refine Qf (i4 _) ?_
    refine Qj (Q8 a4.2 ag112 rfl) rfl ?_
    refine Qj (Qp un112 (r4)) rfl ?_
    refine Qf (Xd (by omega)) ?_
    refine Qx (rfl) ?_
    unfold K21_8 K21_9
    refine Yb (L:=fun f' i σ=>L21_10 M (Ql (C M) tab (n + 1)) (L21_5 M (Ql (C M) tab (n + 1)) f) f' (P b1 0) (P b2 0) (I (j:Nat)) (I (i:Nat)) σ) (n:=r.length) (fun _ s=>Gr σ' s) (fun f' i s hi' hs hk'=>?_) (fun f' s hs=>?_) 0 M σ' (by omega) (by unfold M; omega) (Gr.refl _)
    · rw [L21_10_succ]
      obtain ⟨z,hz⟩:=Q6 hi'
      have r3':=r3.ext hs
      obtain ⟨b5,k5,c5,i5,a5,r5,_⟩:=Yq un112 sz120 r3' hz
      obtain ⟨b6,k6,c6,i6,a6,r6,_⟩:=Yq un112 sz120 (r4.ext hs) hz
      obtain ⟨_,p5,_,_,rfl,h,g5,h',h''⟩:=rl4 r5
      obtain rfl:=h.of_flat
      obtain rfl:=h'.of_flat
      obtain rfl:=h''.of_flat
      obtain ⟨_,p6,_,_,rfl,h,g6,h',h''⟩:=rl4 r6
      obtain rfl:=h.of_flat
      obtain rfl:=h'.of_flat
      obtain rfl:=h''.of_flat
      replace a3:=a3.ext hs
      replace a4:=a4.ext hs
      replace a1':=a1'.ext hs
      replace a2':=a2'.ext hs
      have w:=hf.each r (List.mem_of_getElem? hr) z (List.mem_of_getElem? hz)
      unfold L21_10_b
      refine Qb (Ni) ?_
      refine Qb (Qg a1'.2 ag62 rfl) ?_
      refine Qb (i3 _) ?_
      refine Qb (Q8 a3.2 ag112 rfl) ?_
      refine Qb (Qp un112 (r3')) ?_
      refine Qb (Xi (by omega)) ?_
      refine Xc (rfl) ?_
      unfold K21_11
      refine y_atn fun s0 a e0 n0 ha=>X0 ?_
      refine Qf (Ni) ?_
      refine Qj (Qg (a1'.ext e0).2 ag62 rfl) rfl ?_
      refine Qf (i3 _) ?_
      refine Qj (Q8 (a3.ext e0).2 ag112 rfl) rfl ?_
      refine Qf (i5 _) ?_
      refine Qj (Q7 (a5.ext e0).2 ag120 sz120 rfl) rfl ?_
      refine y_dnw ne120 fun s1 n1 g1 o1=>y_dnw ne120 fun s2 n2 g2 o2=>?_
      simp only [na] at g1 o1 g2 o2 ⊢
      have e2:Gr s s2:=⟨by omega,fun i hi=>by rw [o2 i (by omega),o1 i (by omega)]; exact e0.2 i hi⟩
      obtain ⟨s3,q3,n3,a7,o3⟩:=st_at (cs:=[.int .u64 z.seed,p5,.str ⟨⟨z.source⟩⟩,.int .i64 z.level]) ((o2 (a + 16) (by omega)).trans g1) rfl sz120 (by omega)
      refine X7 q3 ?_
      have e4:Gr s s3:=⟨by omega,fun i hi=>by rw [o3 i (by omega)]; exact e2.2 i hi⟩
      refine Qf (Ni) ?_
      refine Y1 rfl (Qg (a2'.ext e4).2 ag62 rfl) (Qg (a2'.ext e4).2 ag62 rfl) (Qg (a2'.ext e0).2 ag62 rfl) rfl ?_
      refine Qf (i4 _) ?_
      refine Y1 rfl (Q8 (a4.ext e4).2 ag112 rfl) (Q8 (a4.ext e4).2 ag112 rfl) (Q8 (a4.ext e0).2 ag112 rfl) rfl ?_
      refine Qf (i6 _) ?_
      refine Y1 rfl (Q7 (a6.ext e4).2 ag120 sz120 rfl) (Q7 (a6.ext e4).2 ag120 sz120 rfl) (Q7 (a6.ext e0).2 ag120 sz120 rfl) rfl ?_
      obtain ⟨s4,q4,n4,a8,o4⟩:=st_at (cs:=[.int .u64 z.seed,p6,.str ⟨⟨z.source⟩⟩,.int .i64 z.level]) ((o3 (a + 17) (by omega)).trans g2) rfl sz120 (by omega)
      refine X7 q4 ?_
      have e5:Gr s s4:=⟨by omega,fun i hi=>by rw [o4 i (by omega)]; exact e4.2 i hi⟩
      have a7:At s4 (a + 16) 0 _:=⟨by omega,a7.2.to (o4 _ (by omega))⟩
      obtain ⟨_,s5,q,rfl,e6⟩:=eq13 (n:=n) (ca:=[.int .u64 z.seed,p5]) (cb:=[.int .u64 z.seed,p6]) ht (.cons (.flat rfl) (.cons (g5.ext e5) .nil)) (.cons (.flat rfl) (.cons (g6.ext e5) .nil)) w
      refine Qb (fa120_1) ?_
      refine Qb (Qg a7.2 ag9 rfl) ?_
      refine Qb (fa120_1) ?_
      refine Qb (Qg a8.2 ag9 rfl) ?_
      refine Qb (s_neqF rfl) ?_
      refine Qb (Qe (fa120_2)) ?_
      refine Qb (Qe (Qg a7.2 ag3 rfl)) ?_
      refine Qb (Qe (fa120_2)) ?_
      refine Qb (Qe (Qg a8.2 ag3 rfl)) ?_
      refine Qb (Qe (Xd (by omega))) ?_
      refine Qb (rfl) ?_
      refine Qb (Qe (fa120_0)) ?_
      refine Qb (Qe (Xt a7.2 ag118 sz118 rfl)) ?_
      refine Qb (Qe (fa120_0)) ?_
      refine Qb (Qe (Xt a8.2 ag118 sz118 rfl)) ?_
      refine V8 rfl rfl (q) ?_
      refine Qb (Qe (Va)) ?_
      refine Qb (rfl) ?_
      refine Qx (rfl) ?_
      unfold K21_12
      refine Qb (Xy (by omega)) ?_
      exact hk' _ ((hs.trans e5).trans e6)
    · rw [L21_10_succ]
      unfold L21_10_b
      refine Qb (Ni) ?_
      refine Qb (Qg (a1'.ext hs).2 ag62 rfl) ?_
      refine Qb (i3 _) ?_
      refine Qb (Q8 (a3.ext hs).2 ag112 rfl) ?_
      refine Qb (Qp un112 ((r3.ext hs))) ?_
      refine Qb (Q4 (by omega)) ?_
      refine Qx (rfl) ?_
      unfold Yc
      refine Qb (Xy (by omega)) ?_
      exact hk _ (hi.trans hs)
  · rw [L21_5_succ]
    unfold L21_5_b
    refine Qb (Ni) ?_
    refine Qb (Qg (a1.ext hi).2 ag62 rfl) ?_
    refine Qb (Qp un62 ((ra.ext hi))) ?_
    refine Qb (Q4 (by omega)) ?_
    refine Qx (rfl) ?_
    unfold Yh
    exact Qs ⟨rfl,e.trans hi⟩
end Core
end Go.Proofs.YtjfgdcegpgoobaaGreatDoor
namespace Go.Proofs.YtjfgdcegpgoobaaGreatDoor
open Go.Run Go
namespace Core
open Ty
set_option maxRecDepth 1000000
theorem flats {ok:Nat→Prop} {σ:St}:∀ {l cs:List CV},RepL ok σ cs (l.map .flat)→cs = l
  | [],_,h=>rl0 h
  | a :: l,_,h=>by
    obtain ⟨x,r,rfl,h1,t⟩:=rlc h
    obtain rfl:=h1.of_flat
    rw [flats t]
theorem bank_cells {ok:Nat→Prop} {σ:St} {cs:List CV} {b:Bnk} (h:RepL ok σ cs b.d):∃ rj e1 e2 e3 e4 e5 e6 e7 r1 r2 r3 r4 r5 u1 u2 u3 s1 s2,
    cs = b.cfg.cells ++ [.int .i64 b.packets,.int .i64 b.bytes,rj,e1,e2,e3,e4,e5,e6,e7,r1,r2,r3,r4,r5,u1,u2,u3,s1,s2]∧Rep ok σ rj (Ww b.rejects)∧RepL ok σ [e1,e2,e3,e4,e5,e6,e7] b.els.d∧RepL ok σ [r1,r2,r3,r4,r5] b.rad.d∧RepL ok σ [u1,u2,u3] b.unv.d∧RepL ok σ [s1,s2] b.spr.d:=by
  unfold Bnk.d at h
  obtain ⟨h,q5,rfl,h,p5⟩:=RepL.split h
  obtain ⟨h,q4,rfl,h,p4⟩:=RepL.split h
  obtain ⟨h,q3,rfl,h,p3⟩:=RepL.split h
  obtain ⟨h,q2,rfl,h,p2⟩:=RepL.split h
  obtain ⟨h,q1,rfl,h,p1⟩:=RepL.split h
  obtain rfl:=flats h
  obtain ⟨_,_,rj,rfl,h1,h2,h3⟩:=rl3 p1
  obtain rfl:=h1.of_flat
  obtain rfl:=h2.of_flat
  obtain ⟨e1,e2,e3,e4,e5,e6,e7,rfl,_⟩:=rl7 p2
  obtain ⟨r1,r2,r3,r4,r5,rfl,_⟩:=rl5 p3
  obtain ⟨u1,u2,u3,rfl,_⟩:=rl3 p4
  obtain ⟨s1,s2,rfl,_⟩:=rl2 p5
  exact ⟨rj,e1,e2,e3,e4,e5,e6,e7,r1,r2,r3,r4,r5,u1,u2,u3,s1,s2,by simp only [List.append_assoc,List.cons_append,List.nil_append],h3,p2,p3,p4,p5⟩
theorem eq20 {n:Nat} {σ:St} {tab:Tab} (ht:Fr tab) {ok1 ok2:Nat→Prop} {ca cb:List CV} {x:Bnk} (ha:RepL ok1 σ ca x.d) (hb:RepL ok2 σ cb x.d) (hf:FewBnk x) :
    Yl (Ql (C M) tab (n + 4) 6 [.agg ca,.agg cb] σ) (fun v σ'=>v = B true∧Gr σ σ'):=by
  obtain ⟨rj,p1,p2,p3,p4,p5,p6,p7,q1,q2,q3,q4,q5,u1,u2,u3,s1,s2,rfl,ra,pa,qa,ua,sa⟩:=bank_cells ha
  obtain ⟨rj',p1',p2',p3',p4',p5',p6',p7',q1',q2',q3',q4',q5',u1',u2',u3',s1',s2',rfl,rb,pb,qb,ub,sb⟩:=bank_cells hb
  refine Q3 (ht _ rfl) Tryz.func6 (by kernel_rfl) ?_
  rw [F6_eq]
  unfold K6_0
  refine Yn fun σ1 b1 e1 a1 _=>Yn fun σ2 b2 e2 a2 _=>?_
  have e:=e1.trans e2
  replace a1:=a1.ext e2
  replace ra:=ra.ext e
  replace rb:=rb.ext e
  have h1:=hf.rej
  unfold K6_1
  refine Qb (fa66_0) ?_
  refine Qb (Xt a1.2 ag24 sz24 rfl) ?_
  refine Qb (fa66_0) ?_
  refine Qb (Xt a2.2 ag24 sz24 rfl) ?_
  refine Qb (cfg_self) ?_
  refine Qb (Qe (fa66_1)) ?_
  refine Qb (Qe (Qg a1.2 ag3 rfl)) ?_
  refine Qb (Qe (fa66_1)) ?_
  refine Qb (Qe (Qg a2.2 ag3 rfl)) ?_
  refine Qb (Qe (Xd (by omega))) ?_
  refine Qb (rfl) ?_
  refine Qb (Qe (fa66_2)) ?_
  refine Qb (Qe (Qg a1.2 ag3 rfl)) ?_
  refine Qb (Qe (fa66_2)) ?_
  refine Qb (Qe (Qg a2.2 ag3 rfl)) ?_
  refine Qb (Qe (Xd (by omega))) ?_
  refine Qb (rfl) ?_
  refine Qb (Qe (fa66_3)) ?_
  refine Qb (Qe (Qg a1.2 Ng rfl)) ?_
  refine Qb (Qe (Qp Vj (ra))) ?_
  refine Qb (Qe (fa66_3)) ?_
  refine Qb (Qe (Qg a2.2 Ng rfl)) ?_
  refine Qb (Qe (Qp Vj (rb))) ?_
  refine Qb (Qe (Xd (by omega))) ?_
  refine Qb (rfl) ?_
  refine Qx (rfl) ?_
  unfold K6_2 K6_4
  refine Yb (L:=fun f j σ=>L6_5 M (Ql (C M) tab (n + 3)) f (P b1 0) (P b2 0) (I (j:Nat)) σ) (n:=x.rejects.length) (fun _ s=>s = σ2) (fun f j σ' hj hi hk=>?_) (fun f σ' hi=>?_) 0 M σ2 (by omega) (by unfold M; omega) rfl
  · subst hi
    rw [L6_5_succ]
    obtain ⟨r,hr⟩:=Q6 hj
    obtain ⟨b3,k3,x3,i3,a3,r3,_⟩:=Xg Vj sz3 ra hr
    obtain ⟨b4,k4,x4,i4,a4,r4,_⟩:=Xg Vj sz3 rb hr
    obtain rfl:=r3.of_flat
    obtain rfl:=r4.of_flat
    unfold L6_5_b
    refine Qb (fa66_3) ?_
    refine Qb (Qg a1.2 Ng rfl) ?_
    refine Qb (Qp Vj (ra)) ?_
    refine Qb (Xi (by omega)) ?_
    refine Xc (rfl) ?_
    unfold K6_6
    refine X0 ?_
    refine Qf (fa66_3) ?_
    refine Qj (Qg a1.2 Ng rfl) rfl ?_
    refine Qf (i3 _) ?_
    refine Qj (Q8 a3.2 ag3 rfl) rfl ?_
    refine Qf (fa66_3) ?_
    refine Qj (Qg a2.2 Ng rfl) rfl ?_
    refine Qf (i4 _) ?_
    refine Qj (Q8 a4.2 ag3 rfl) rfl ?_
    refine Qf (Xd (by omega)) ?_
    refine Qx (rfl) ?_
    unfold K6_7
    refine Qb (Xy (by omega)) ?_
    exact hk _ rfl
  · subst hi
    rw [L6_5_succ]
    unfold L6_5_b
    refine Qb (fa66_3) ?_
    refine Qb (Qg a1.2 Ng rfl) ?_
    refine Qb (Qp Vj (ra)) ?_
    refine Qb (Q4 (by omega)) ?_
    refine Qx (rfl) ?_
    obtain ⟨_,σ3,c1,rfl,e3⟩:=eq15 (n:=n) ht (pa.ext e) (pb.ext e) hf.els
    have e':=e.trans e3
    obtain ⟨_,σ4,c2,rfl,e4⟩:=eq16 (n:=n + 1) ht (qa.ext e') (qb.ext e') hf.rad
    have e'':=e'.trans e4
    obtain ⟨_,σ5,c3,rfl,e5⟩:=eq18 (n:=n) ht (ua.ext e'') (ub.ext e'') hf.unv
    have e3':=e''.trans e5
    obtain ⟨_,σ6,c4,rfl,e6⟩:=eq19 (n:=n + 1) ht (sa.ext e3') (sb.ext e3') hf.spr
    unfold K6_3
    refine Qb (fa66_4) ?_
    refine Qb (Xt a1.2 ag54 sz54 rfl) ?_
    refine Qb (fa66_4) ?_
    refine Qb (Xt a2.2 ag54 sz54 rfl) ?_
    refine Xs rfl (c1) ?_
    refine Qb (Qe (fa66_5)) ?_
    refine Qb (Qe (Xt (a1.ext e3).2 ag58 sz58 rfl)) ?_
    refine Qb (Qe (fa66_5)) ?_
    refine Qb (Qe (Xt (a2.ext e3).2 ag58 sz58 rfl)) ?_
    refine V8 rfl rfl (c2) ?_
    refine Qb (rfl) ?_
    refine Qb (Qe (fa66_6)) ?_
    refine Qb (Qe (Xt (a1.ext (e3.trans e4)).2 ag61 sz61 rfl)) ?_
    refine Qb (Qe (fa66_6)) ?_
    refine Qb (Qe (Xt (a2.ext (e3.trans e4)).2 ag61 sz61 rfl)) ?_
    refine V8 rfl rfl (c3) ?_
    refine Qb (rfl) ?_
    refine Qb (Qe (fa66_7)) ?_
    refine Qb (Qe (Xt (a1.ext ((e3.trans e4).trans e5)).2 ag64 sz64 rfl)) ?_
    refine Qb (Qe (fa66_7)) ?_
    refine Qb (Qe (Xt (a2.ext ((e3.trans e4).trans e5)).2 ag64 sz64 rfl)) ?_
    refine V8 rfl rfl (c4) ?_
    refine Qb (rfl) ?_
    exact Qs ⟨rfl,e3'.trans e6⟩
end Core
end Go.Proofs.YtjfgdcegpgoobaaGreatDoor
namespace Go.Proofs.YtjfgdcegpgoobaaGreatDoor
open Go.Run Go
namespace Core
open Ty
set_option maxRecDepth 1000000
theorem y_fora {α:Type} {L:Nat→Nat→α→St→Rs} {Q:AV→St→Prop} {n:Nat} (Inv:Nat→α→St→Prop)
    (step:∀ f j a σ,j < n→Inv j a σ→(∀ a' σ',Inv (j + 1) a' σ'→Yl (L f (j + 1) a' σ') Q)→Yl (L (f + 1) j a σ) Q)
    (last:∀ f a σ,Inv n a σ→Yl (L (f + 1) n a σ) Q) (s f:Nat) (a:α) (σ:St) (hs:s≤n) (hf:n < f + s) (h:Inv s a σ):Yl (L f s a σ) Q:=by
  have key:∀ (d j f:Nat) (a:α) (σ:St),j + d = n→d < f→Inv j a σ→Yl (L f j a σ) Q:=by
    intro d
    induction d with
    | zero=>
      intro j f a σ hj hf h
      obtain ⟨g,rfl⟩:∃ g,f = g + 1:=⟨f - 1,by omega⟩
      have:j = n:=by omega
      subst this
      exact last g a σ h
    | succ d ih=>
      intro j f a σ hj hf h
      obtain ⟨g,rfl⟩:∃ g,f = g + 1:=⟨f - 1,by omega⟩
      exact step g j a σ (by omega) h fun a' σ' h'=>ih (j + 1) g a' σ' (by omega) (by omega) h'
  exact key (n - s) s f a σ (by omega) (by omega) h
theorem min_run {n:Nat} {σ:St} {tab:Tab} (ht:Fr tab) {ok:Nat→Prop} {l:List Int} {cv:CV} (h:Rep ok σ cv (Ww l)) (h0:0 < l.length) (hl:l.length < 1000000) :
    ∃ q,q ∈ l∧Ql (C M) tab (n + 1) 166 [.one cv] σ = some (I q,σ):=by
  have key:Yl (Ql (C M) tab (n + 1) 166 [.one cv] σ) (fun v s=>s = σ∧∃ q,q ∈ l∧v = I q):=by
    refine Q3 (ht _ rfl) Tryz.func166 (by kernel_rfl) ?_
    rw [F166_eq]
    unfold K166_0
    unfold K166_1
    refine Qb (Qp Vj (h)) ?_
    refine Qb (Q4 (by omega)) ?_
    refine Qx (rfl) ?_
    obtain ⟨z,hz⟩:=Q6 h0
    obtain ⟨b1,k1,c1,i1,a1,r1,_⟩:=Xg Vj sz3 h hz
    obtain rfl:=r1.of_flat
    unfold K166_2
    refine Qb (i1 _) ?_
    refine Qb (Q8 a1.2 ag3 rfl) ?_
    unfold K166_3 K166_5
    refine y_fora (L:=fun f' j q s=>L166_6 M (Ql (C M) tab n) f' (.one cv) (I q) (I (j:Nat)) s) (n:=l.length) (fun j q s=>s = σ∧q ∈ l) (fun f' j q s hj hi hk=>?_) (fun f' q s hi=>?_) 1 M z σ (by omega) (by unfold M; omega) ⟨rfl,List.mem_of_getElem? hz⟩
    · obtain ⟨rfl,hq⟩:=hi
      rw [L166_6_succ]
      obtain ⟨y,hy⟩:=Q6 hj
      obtain ⟨b2,k2,c2,i2,a2,r2,_⟩:=Xg Vj sz3 h hy
      obtain rfl:=r2.of_flat
      unfold L166_6_b
      refine Qb (Qp Vj (h)) ?_
      refine Qb (Xi (by omega)) ?_
      refine Xc (rfl) ?_
      unfold K166_7
      refine Qb (i2 _) ?_
      refine Qb (Q8 a2.2 ag3 rfl) ?_
      refine Qb (o_min) ?_
      unfold K166_8
      refine Qb (Xy (by omega)) ?_
      refine hk _ _ ⟨rfl,?_⟩
      rcases Int.le_total q y with h1 | h1
      · rw [Int.min_eq_left h1]; exact hq
      · rw [Int.min_eq_right h1]; exact List.mem_of_getElem? hy
    · obtain ⟨rfl,hq⟩:=hi
      rw [L166_6_succ]
      unfold L166_6_b
      refine Qb (Qp Vj (h)) ?_
      refine Qb (Q4 (by omega)) ?_
      refine Qx (rfl) ?_
      unfold Wf
      exact Qs ⟨rfl,q,hq,rfl⟩
  obtain ⟨v,s,h1,rfl,q,h2,rfl⟩:=key
  exact ⟨q,h2,h1⟩
theorem max_run {n:Nat} {σ:St} {tab:Tab} (ht:Fr tab) {ok:Nat→Prop} {l:List Int} {cv:CV} (h:Rep ok σ cv (Ww l)) (h0:0 < l.length) (hl:l.length < 1000000) :
    ∃ q,q ∈ l∧Ql (C M) tab (n + 1) 167 [.one cv] σ = some (I q,σ):=by
  have key:Yl (Ql (C M) tab (n + 1) 167 [.one cv] σ) (fun v s=>s = σ∧∃ q,q ∈ l∧v = I q):=by
    refine Q3 (ht _ rfl) Tryz.func167 (by kernel_rfl) ?_
    rw [F167_eq]
    unfold K167_0
    unfold K167_1
    refine Qb (Qp Vj (h)) ?_
    refine Qb (Q4 (by omega)) ?_
    refine Qx (rfl) ?_
    obtain ⟨z,hz⟩:=Q6 h0
    obtain ⟨b1,k1,c1,i1,a1,r1,_⟩:=Xg Vj sz3 h hz
    obtain rfl:=r1.of_flat
    unfold K167_2
    refine Qb (i1 _) ?_
    refine Qb (Q8 a1.2 ag3 rfl) ?_
    unfold K167_3 K167_5
    refine y_fora (L:=fun f' j q s=>L167_6 M (Ql (C M) tab n) f' (.one cv) (I q) (I (j:Nat)) s) (n:=l.length) (fun j q s=>s = σ∧q ∈ l) (fun f' j q s hj hi hk=>?_) (fun f' q s hi=>?_) 1 M z σ (by omega) (by unfold M; omega) ⟨rfl,List.mem_of_getElem? hz⟩
    · obtain ⟨rfl,hq⟩:=hi
      rw [L167_6_succ]
      obtain ⟨y,hy⟩:=Q6 hj
      obtain ⟨b2,k2,c2,i2,a2,r2,_⟩:=Xg Vj sz3 h hy
      obtain rfl:=r2.of_flat
      unfold L167_6_b
      refine Qb (Qp Vj (h)) ?_
      refine Qb (Xi (by omega)) ?_
      refine Xc (rfl) ?_
      unfold K167_7
      refine Qb (i2 _) ?_
      refine Qb (Q8 a2.2 ag3 rfl) ?_
      refine Qb (o_max) ?_
      unfold K167_8
      refine Qb (Xy (by omega)) ?_
      refine hk _ _ ⟨rfl,?_⟩
      rcases Int.le_total q y with h1 | h1
      · rw [Int.max_eq_right h1]; exact List.mem_of_getElem? hy
      · rw [Int.max_eq_left h1]; exact hq
    · obtain ⟨rfl,hq⟩:=hi
      rw [L167_6_succ]
      unfold L167_6_b
      refine Qb (Qp Vj (h)) ?_
      refine Qb (Q4 (by omega)) ?_
      refine Qx (rfl) ?_
      unfold Wg
      exact Qs ⟨rfl,q,hq,rfl⟩
  obtain ⟨v,s,h1,rfl,q,h2,rfl⟩:=key
  exact ⟨q,h2,h1⟩
theorem least_right {n:Nat} {σ:St} {tab:Tab} (ht:Fr tab) {ok:Nat→Prop} {ca:List CV} {s:Nat} {m:Int} {ll:List (List Int)} (ha:RepL ok σ ca [dW s,dI m,V1 ll]) (hm:1≤m∧m≤M40) {r k:Nat} (hs:Shp ll r k) (h1:1≤r∧r≤7) (h2:1≤k∧k≤256) (hv:∀ x ∈ ll,∀ n ∈ x,0≤n∧n≤m) :
    Yl (Ql (C M) tab (n + 2) 123 [.agg ca] σ) (fun v σ'=>v = B true∧Gr σ σ'):=by
  obtain ⟨_,_,x,rfl,q1,q2,ra⟩:=rl3 ha
  obtain rfl:=q1.of_flat
  obtain rfl:=q2.of_flat
  obtain ⟨hr,hs⟩:=hs
  unfold M40 at hm
  refine Q3 (ht _ rfl) Tryz.func123 (by kernel_rfl) ?_
  rw [F123_eq]
  unfold K123_0
  refine Yn fun σ1 b1 e1 a1 _=>?_
  replace ra:=ra.ext e1
  unfold K123_1
  refine Qb (fa29_1) ?_
  refine Qb (Qg a1.2 ag3 rfl) ?_
  refine Qb (Q4 (by omega)) ?_
  refine Qb (Qe (fa29_1)) ?_
  refine Qb (Qe (Qg a1.2 ag3 rfl)) ?_
  refine Qb (Qe (Wy (by omega))) ?_
  refine Qb (rfl) ?_
  refine Qb (Qe (fa29_2)) ?_
  refine Qb (Qe (Qg a1.2 ag27 rfl)) ?_
  refine Qb (Qe (Qp Jj (ra))) ?_
  refine Qb (Qe (Q4 (by omega))) ?_
  refine Qb (rfl) ?_
  refine Qb (Qe (fa29_2)) ?_
  refine Qb (Qe (Qg a1.2 ag27 rfl)) ?_
  refine Qb (Qe (Qp Jj (ra))) ?_
  refine Qb (Qe (Wy (by omega))) ?_
  refine Qb (rfl) ?_
  refine Qx (rfl) ?_
  unfold K123_2
  refine Qb (fa29_2) ?_
  refine Qb (Qg a1.2 ag27 rfl) ?_
  refine Qb (Qp Jj (ra)) ?_
  unfold K123_4
  refine Yb (L:=fun f' j s=>L123_5 M (Ql (C M) tab (n + 1)) f' (P b1 0) (.one x) (I (ll.length:Nat)) (I (j:Nat)) s) (n:=ll.length) (fun j s=>s = σ1) (fun f' j s hj hi hk=>?_) (fun f' s hi=>?_) 0 M σ1 (by omega) (by unfold M; omega) rfl
  · subst hi
    rw [L123_5_succ]
    obtain ⟨y,hy⟩:=Q6 hj
    obtain ⟨z,hz⟩:=Q6 (l:=ll) (j:=0) (by omega)
    obtain ⟨b2,k2,c2,i2,a2,r2,_⟩:=Xg Jj sz25 ra hy
    obtain ⟨b3,k3,c3,i3,a3,r3,_⟩:=Xg Jj sz25 ra hz
    have l1:=hs y (List.mem_of_getElem? hy)
    have l2:=hs z (List.mem_of_getElem? hz)
    obtain ⟨q3,m3,c3⟩:=min_run (n:=n) ht r2 (by omega) (by omega)
    obtain ⟨q4,m4,c4⟩:=max_run (n:=n) ht r2 (by omega) (by omega)
    have v3:=hv y (List.mem_of_getElem? hy) q3 m3
    have v4:=hv y (List.mem_of_getElem? hy) q4 m4
    unfold L123_5_b
    refine Qb (Xi (by omega)) ?_
    unfold K123_6
    refine Xc (rfl) ?_
    unfold K123_7
    refine Qb (i2 _) ?_
    refine Qb (Q8 a2.2 Ng rfl) ?_
    refine X0 ?_
    refine Qj (Qp Vj (r2)) rfl ?_
    refine Qf (Q4 (by omega)) ?_
    refine Qf (Qe (rfl)) ?_
    refine Qj (Qe (Qp Vj (r2))) rfl ?_
    refine Qf (Qe (Wy (by omega))) ?_
    refine Qf (rfl) ?_
    refine Qf (Qe (rfl)) ?_
    refine Qj (Qe (Qp Vj (r2))) rfl ?_
    refine Qf (Qe (fa29_2)) ?_
    refine Qj (Qe (Qg a1.2 ag27 rfl)) rfl ?_
    refine Qf (Qe (i3 _)) ?_
    refine Qj (Qe (Q8 a3.2 Ng rfl)) rfl ?_
    refine Qj (Qe (Qp Vj (r3))) rfl ?_
    refine Qf (Qe (Xd (by omega))) ?_
    refine Qf (rfl) ?_
    refine Qf (Qe (rfl)) ?_
    refine y_dgc rfl rfl c3 ?_
    refine Qf (Qe (Q4 (by omega))) ?_
    refine Qf (rfl) ?_
    refine Qf (Qe (rfl)) ?_
    refine y_dgc rfl rfl c4 ?_
    refine Qf (Qe (fa29_1)) ?_
    refine Y1 rfl (Qg a1.2 ag3 rfl) (Qg a1.2 ag3 rfl) (Qg a1.2 ag3 rfl) rfl ?_
    refine Qf (Qe (Wy (by omega))) ?_
    refine Qf (rfl) ?_
    refine Qx (rfl) ?_
    unfold K123_8
    refine Qb (Xy (by omega)) ?_
    exact hk _ rfl
  · subst hi
    rw [L123_5_succ]
    unfold L123_5_b
    refine Qb (Q4 (by omega)) ?_
    unfold K123_6
    refine Qx (rfl) ?_
    unfold Zo
    exact Qs ⟨rfl,e1⟩
end Core
end Go.Proofs.YtjfgdcegpgoobaaGreatDoor
namespace Go.Proofs.YtjfgdcegpgoobaaGreatDoor
open Go.Run Go
namespace Core
open Ty
set_option maxRecDepth 1000000
theorem any_no {α:Type} {l:List α}:(l.any fun _=>false) = false:=by induction l with
  | nil=>rfl
  | cons a r ih=>simp
section
variable {n:Nat} {σ:St} {tab:Tab} {ok:Nat→Prop}
theorem fits26 (ht:Fr tab) {q:Int} (h:0≤q∧q≤M40):Ql (C M) tab (n + 1) 26 [I q] σ = some (B true,σ):=by
  unfold M40 at h
  refine Xf (ht _ rfl) Tryz.func26 (by kernel_rfl) ?_
  rw [F26_eq]
  refine Yl.eq ?_
  unfold K26_0
  refine Qb (k_geqT (by omega)) ?_
  refine Qb (Qe (rfl)) ?_
  refine Qb (Qe (k_leqT (by omega))) ?_
  refine Qb (rfl) ?_
  exact Qs ⟨rfl,rfl⟩
theorem fits98 (ht:Fr tab) {q:Int} (h:0≤q∧q≤M40):Ql (C M) tab (n + 1) 98 [I q] σ = some (B true,σ):=by
  unfold M40 at h
  refine Xf (ht _ rfl) Tryz.func98 (by kernel_rfl) ?_
  rw [F98_eq]
  refine Yl.eq ?_
  unfold K98_0
  refine Qb (k_geqT (by omega)) ?_
  refine Qb (Qe (rfl)) ?_
  refine Qb (Qe (k_leqT (by omega))) ?_
  refine Qb (rfl) ?_
  exact Qs ⟨rfl,rfl⟩
theorem fits151 (ht:Fr tab) {q:Int} (h:-M40≤q∧q≤M40):Ql (C M) tab (n + 1) 151 [I q] σ = some (B true,σ):=by
  unfold M40 at h
  refine Xf (ht _ rfl) Tryz.func151 (by kernel_rfl) ?_
  rw [F151_eq]
  refine Yl.eq ?_
  unfold K151_0
  refine Qb (k_geqT (by omega)) ?_
  refine Qb (Qe (rfl)) ?_
  refine Qb (Qe (k_leqT (by omega))) ?_
  refine Qb (rfl) ?_
  exact Qs ⟨rfl,rfl⟩
theorem wrong104 (ht:Fr tab) {ca:List CV} {x:Cel} (ha:RepL ok σ ca x.d) (h:GCel x):Yl (Ql (C M) tab (n + 2) 104 [.agg ca] σ) (fun v σ'=>v = B false∧Gr σ σ'):=by
  obtain rfl:=cel_cells ha
  have hx:=h.xor
  have hf:=h.flows
  unfold M40 at hf
  refine Q3 (ht _ rfl) Tryz.func104 (by kernel_rfl) ?_
  rw [F104_eq]
  unfold K104_0
  refine Yn fun σ1 b1 e1 a1 _=>?_
  refine Qb (fa97_0) ?_
  refine Qb (Qg a1.2 ag9 rfl) ?_
  refine Qb (o_slen un9) ?_
  refine Qb (Xd (by omega)) ?_
  refine Qb (Qe (fa97_1)) ?_
  refine Qb (Qe (Qg a1.2 ag3 rfl)) ?_
  refine Qb (Qe (Q4 (by omega))) ?_
  refine Qb (rfl) ?_
  refine Qb (Qe (fa97_1)) ?_
  refine Qb (Qe (Qg a1.2 ag3 rfl)) ?_
  refine Qb (Qe (Wy (by omega))) ?_
  refine Qb (rfl) ?_
  refine Qb (Qe (fa97_2)) ?_
  refine Qb (Qe (Qg a1.2 ag3 rfl)) ?_
  refine V8 rfl rfl (fits98 (n:=n) ht h.packets) ?_
  refine Qb (Qe (Va)) ?_
  refine Qb (rfl) ?_
  refine Qb (Qe (fa97_3)) ?_
  refine Qb (Qe (Qg a1.2 ag3 rfl)) ?_
  refine V8 rfl rfl (fits98 (n:=n) ht h.bytes) ?_
  refine Qb (Qe (Va)) ?_
  refine Qb (rfl) ?_
  exact Qs ⟨rfl,e1⟩
theorem cl128 (ht:Fr tab) {cv:CV} {b:Nat} {y0 y1 y2 y3 rv:CV} {rows:List (List Cel)} {l:List Cel} {k:Nat} (hb:At σ b 0 [y0,y1,y2,y3,rv]) (hr:Rep ok σ rv (.sl 1 (rows.map fun r=>[.sl 4 (r.map Cel.d)]))) (h0:∃ z,rows[0]? = some z∧z.length = k) (hl:Rep ok σ cv (.sl 4 (l.map Cel.d))) (hk:l.length = k) (h2:1≤k∧k≤256) (hv:∀ x ∈ l,GCel x) :
    Yl (Ql (C M) tab (n + 5) 128 [.one cv,P b 0] σ) (fun v σ'=>v = B false∧Gr σ σ'):=by
  obtain ⟨z,hz,hzl⟩:=h0
  obtain ⟨b2,k2,c2,i2,a2,r2,_⟩:=Xg un35 sz94 hr hz
  refine Q3 (ht _ rfl) Tryz.func128 (by kernel_rfl) ?_
  rw [F128_eq]
  unfold K128_0
  refine Qb (Qp un94 (hl)) ?_
  refine Qb (Q4 (by omega)) ?_
  refine Qb (Qe (rfl)) ?_
  refine Qb (Qe (Qp un94 (hl))) ?_
  refine Qb (Qe (Wy (by omega))) ?_
  refine Qb (rfl) ?_
  refine Qb (Qe (rfl)) ?_
  refine Qb (Qe (Qp un94 (hl))) ?_
  refine Qb (Qe (fa37_2)) ?_
  refine Qb (Qe (Qg hb.2 ag35 rfl)) ?_
  refine Qb (Qe (i2 _)) ?_
  refine Qb (Qe (Q8 a2.2 ag94 rfl)) ?_
  refine Qb (Qe (Qp un94 (r2))) ?_
  refine Qb (Qe (Xd (by omega))) ?_
  refine Qb (rfl) ?_
  refine Qb (Qe (rfl)) ?_
  refine y_gcyl rfl rfl (cf75 (n:=n + 2) (p:=fun _=>false) (caps:=[]) ht hl (by omega) rfl fun x hx s c e r=>wrong104 (n:=n) ht r (hv x hx)) fun v s ⟨hv,e⟩=>?_
  rw [any_no] at hv
  subst hv
  refine Qb (rfl) ?_
  exact Qs ⟨rfl,e⟩
theorem radar_right (ht:Fr tab) {ca:List CV} {x:Rad} (ha:RepL ok σ ca x.d) (hs:x.fseed = Xa x.seed 0) (hsd:x.seed < 18446744073709551616) (hh:1≤x.hashes∧x.hashes≤7) (hb:1≤x.bits.length∧x.bits.length≤256) {r k:Nat} (hsh:Shp x.rows r k) (h1:1≤r∧r≤7) (h2:1≤k∧k≤256) (hv:∀ r ∈ x.rows,∀ c ∈ r,GCel c) :
    Yl (Ql (C M) tab (n + 8) 70 [.agg ca] σ) (fun v σ'=>v = B true∧Gr σ σ'):=by
  obtain ⟨_,_,_,y4,y5,rfl,q1,q2,q3,rb,ra⟩:=rl5 ha
  obtain rfl:=q1.of_flat
  obtain rfl:=q2.of_flat
  obtain rfl:=q3.of_flat
  obtain ⟨hr,hk⟩:=hsh
  refine Q3 (ht _ rfl) Tryz.func70 (by kernel_rfl) ?_
  rw [F70_eq]
  unfold K70_0
  refine Yn fun σ1 b1 e1 a1 _=>?_
  replace ra:=ra.ext e1
  replace rb:=rb.ext e1
  obtain ⟨p,cap,rfl⟩:=rb.len
  have hbl:(x.bits.map fun y=>[dB y]).length = x.bits.length:=List.length_map ..
  obtain ⟨_,σ2,c2,rfl,e2⟩:=bloom_right (n:=n + 6) (u:=(x.fseed:Nat)) (h:=x.hashes) (len:=(x.bits.map fun y=>[dB y]).length) (p:=p) (cap:=cap) (σ:=σ1) (ht _ rfl)
  have hok:bloomOk x.hashes (x.bits.map fun y=>[dB y]).length = true:=by
    rw [hbl]; unfold bloomOk; simp only [Bool.and_eq_true,Bool.not_eq_true',decide_eq_false_iff_not]; omega
  rw [hok] at c2
  have e:=e1.trans e2
  replace ra:=ra.ext e2
  replace a1':=a1.ext e2
  have h0:=V9 (n:=n + 4) (b:=0) (σ:=σ2) (ht _ rfl) (ht _ rfl) (ht _ rfl) (ht _ rfl) (ht _ rfl) hsd (by omega)
  refine X0 ?_
  refine Qf (fa37_1) ?_
  refine Qj (Xt a1.2 ag34 sz34 rfl) rfl ?_
  refine Vd rfl (c2) ?_
  refine Qf (Va) ?_
  refine Qf (Qe (fa37_0)) ?_
  refine Qj (Qe (Qg a1'.2 Zf rfl)) rfl ?_
  refine y_dgc rfl rfl h0 ?_
  refine Qf (Qe (fa37_1)) ?_
  refine Qf (Qe (fa34_0)) ?_
  refine Y1 rfl (Qg (i:=1) a1'.2 Zf rfl) (Qg (i:=1) a1'.2 Zf rfl) (Qg (i:=1) a1'.2 Zf rfl) rfl ?_
  refine Qf (Qe (u_neqF (congrArg Nat.cast hs))) ?_
  refine Qf (rfl) ?_
  refine Qf (Qe (fa37_2)) ?_
  refine Qj (Qe (Qg a1'.2 ag35 rfl)) rfl ?_
  refine Qj (Qe (Qp un35 (ra))) rfl ?_
  refine Qf (Qe (Q4 (by omega))) ?_
  refine Qf (rfl) ?_
  refine Qf (Qe (fa37_2)) ?_
  refine Qj (Qe (Qg a1'.2 ag35 rfl)) rfl ?_
  refine Qj (Qe (Qp un35 (ra))) rfl ?_
  refine Qf (Qe (Wy (by omega))) ?_
  refine Qf (rfl) ?_
  refine Qx (rfl) ?_
  refine Qb (fa37_2) ?_
  refine Qb (Qg a1'.2 ag35 rfl) ?_
  refine Qb (rfl) ?_
  obtain ⟨z,hz⟩:=Q6 (l:=x.rows) (j:=0) (by omega)
  refine V4 rfl (cf127 (n:=n + 5) (p:=fun _=>false) (caps:=[(b1,0)]) ht ra (by omega) rfl fun l hl s c e' r=>?_) fun v s ⟨hv',e'⟩=>?_
  · exact cl128 ht (a1'.ext e') (ra.ext e') ⟨z,hz,hk z (List.mem_of_getElem? hz)⟩ r (hk l hl) h2 (hv l hl)
  · rw [any_no] at hv'
    subst hv'
    refine Qb (Va) ?_
    exact Qs ⟨rfl,e.trans e'⟩
theorem cl172 (ht:Fr tab) {q:Int} (h:-M40≤q∧q≤M40):Ql (C M) tab (n + 2) 172 [I q] σ = some (B false,σ):=by
  refine Xf (ht _ rfl) Tryz.func172 (by kernel_rfl) ?_
  rw [F172_eq]
  refine Yl.eq ?_
  unfold K172_0
  refine Xs rfl (fits151 (n:=n) ht h) ?_
  refine Qb (Va) ?_
  exact Qs ⟨rfl,rfl⟩
theorem cl171 (ht:Fr tab) {cv:CV} {b:Nat} {y0 rv:CV} {rows:List (List Int)} {l:List Int} {k:Nat} (hb:At σ b 0 [y0,rv]) (hr:Rep ok σ rv (V1 rows)) (h0:∃ z,rows[0]? = some z∧z.length = k) (hl:Rep ok σ cv (Ww l)) (hk:l.length = k) (h2:1≤k∧k≤256) (hv:∀ x ∈ l,-M40≤x∧x≤M40) :
    Yl (Ql (C M) tab (n + 5) 171 [.one cv,P b 0] σ) (fun v σ'=>v = B false∧Gr σ σ'):=by
  obtain ⟨z,hz,hzl⟩:=h0
  obtain ⟨b2,k2,c2,i2,a2,r2,_⟩:=Xg Jj sz25 hr hz
  refine Q3 (ht _ rfl) Tryz.func171 (by kernel_rfl) ?_
  rw [F171_eq]
  unfold K171_0
  refine Qb (Qp Vj (hl)) ?_
  refine Qb (Q4 (by omega)) ?_
  refine Qb (Qe (rfl)) ?_
  refine Qb (Qe (Qp Vj (hl))) ?_
  refine Qb (Qe (Wy (by omega))) ?_
  refine Qb (rfl) ?_
  refine Qb (Qe (rfl)) ?_
  refine Qb (Qe (Qp Vj (hl))) ?_
  refine Qb (Qe (Ja)) ?_
  refine Qb (Qe (Qg hb.2 ag27 rfl)) ?_
  refine Qb (Qe (i2 _)) ?_
  refine Qb (Qe (Q8 a2.2 Ng rfl)) ?_
  refine Qb (Qe (Qp Vj (r2))) ?_
  refine Qb (Qe (Xd (by omega))) ?_
  refine Qb (rfl) ?_
  refine Qb (Qe (rfl)) ?_
  refine y_gcyl rfl rfl (cf27 (n:=n + 2) (p:=fun _=>false) (caps:=[]) ht hl (by omega) rfl fun x hx s c e r=>?_) fun v s ⟨hv,e⟩=>?_
  · obtain rfl:=r.of_flat
    exact y_of (cl172 (n:=n) ht (hv x hx)) ⟨rfl,Gr.refl _⟩
  · rw [any_no] at hv
    subst hv
    refine Qb (rfl) ?_
    exact Qs ⟨rfl,e⟩
theorem signed_right (ht:Fr tab) {ca:List CV} {s:Nat} {ll:List (List Int)} (ha:RepL ok σ ca [dW s,V1 ll]) {r k:Nat} (hsh:Shp ll r k) (h1:r≤7∧r % 2 = 1) (h2:1≤k∧k≤256) (hv:∀ r ∈ ll,∀ c ∈ r,-M40≤c∧c≤M40) :
    Yl (Ql (C M) tab (n + 8) 129 [.agg ca] σ) (fun v σ'=>v = B true∧Gr σ σ'):=by
  obtain ⟨_,y2,rfl,q1,ra⟩:=rl2 ha
  obtain rfl:=q1.of_flat
  obtain ⟨hr,hk⟩:=hsh
  refine Q3 (ht _ rfl) Tryz.func129 (by kernel_rfl) ?_
  rw [F129_eq]
  unfold K129_0
  refine Yn fun σ1 b1 e1 a1 _=>?_
  replace ra:=ra.ext e1
  have ho:Int.tmod (ll.length:Int) 2 = 1:=by rw [hr]; show ((r % 2:Nat):Int) = 1; omega
  refine Qb (Ja) ?_
  refine Qb (Qg a1.2 ag27 rfl) ?_
  refine Qb (Qp Jj (ra)) ?_
  refine Qb (Wy (by omega)) ?_
  refine Qb (Qe (Ja)) ?_
  refine Qb (Qe (Qg a1.2 ag27 rfl)) ?_
  refine Qb (Qe (Qp Jj (ra))) ?_
  refine Qb (Qe (o_rem (by decide))) ?_
  refine Qb (Qe (k_eqlF (by rw [ho]; decide))) ?_
  refine Qb (rfl) ?_
  refine Qx (rfl) ?_
  refine Qb (Ja) ?_
  refine Qb (Qg a1.2 ag27 rfl) ?_
  refine Qb (rfl) ?_
  obtain ⟨z,hz⟩:=Q6 (l:=ll) (j:=0) (by omega)
  refine V4 rfl (cf170 (n:=n + 5) (p:=fun _=>false) (caps:=[(b1,0)]) ht ra (by omega) rfl fun l hl s c e' r=>?_) fun v s ⟨hv',e'⟩=>?_
  · exact cl171 ht (a1.ext e') (ra.ext e') ⟨z,hz,hk z (List.mem_of_getElem? hz)⟩ r (hk l hl) h2 (hv l hl)
  · rw [any_no] at hv'
    subst hv'
    refine Qb (Va) ?_
    exact Qs ⟨rfl,e1.trans e'⟩
end
end Core
end Go.Proofs.YtjfgdcegpgoobaaGreatDoor
namespace Go.Proofs.YtjfgdcegpgoobaaGreatDoor
open Go.Run Go
namespace Core
open Ty
set_option maxRecDepth 1000000
section
variable {n:Nat} {σ:St} {tab:Tab} {ok:Nat→Prop}
theorem cl176 (ht:Fr tab) {cv:CV} {b:Nat} {y0 rv:CV} {rows:List (List Bool)} {l:List Bool} {k:Nat} (hb:At σ b 0 [y0,rv]) (hr:Rep ok σ rv (Jp rows)) (h0:∃ z,rows[0]? = some z∧z.length = k) (hl:Rep ok σ cv (Zk l)) (hk:l.length = k) (h2:1≤k∧k≤256) :
    Yl (Ql (C M) tab (n + 1) 176 [.one cv,P b 0] σ) (fun v σ'=>v = B false∧Gr σ σ'):=by
  obtain ⟨z,hz,hzl⟩:=h0
  obtain ⟨b2,k2,c2,i2,a2,r2,_⟩:=Xg W9 sz32 hr hz
  refine Q3 (ht _ rfl) Tryz.func176 (by kernel_rfl) ?_
  rw [F176_eq]
  unfold K176_0
  refine Qb (Qp un32 (hl)) ?_
  refine Qb (Q4 (by omega)) ?_
  refine Qb (Qe (rfl)) ?_
  refine Qb (Qe (Qp un32 (hl))) ?_
  refine Qb (Qe (Wy (by omega))) ?_
  refine Qb (rfl) ?_
  refine Qb (Qe (rfl)) ?_
  refine Qb (Qe (Qp un32 (hl))) ?_
  refine Qb (Qe (Wv)) ?_
  refine Qb (Qe (Qg hb.2 Wt rfl)) ?_
  refine Qb (Qe (i2 _)) ?_
  refine Qb (Qe (Q8 a2.2 ag32 rfl)) ?_
  refine Qb (Qe (Qp un32 (r2))) ?_
  refine Qb (Qe (Xd (by omega))) ?_
  refine Qb (rfl) ?_
  exact Qs ⟨rfl,Gr.refl _⟩
theorem bitmap_right (ht:Fr tab) {ca:List CV} {s:Nat} {ll:List (List Bool)} (ha:RepL ok σ ca [dW s,Jp ll]) {r k:Nat} (hsh:Shp ll r k) (h1:1≤r∧r≤16) (h2:1≤k∧k≤256) :
    Yl (Ql (C M) tab (n + 4) 131 [.agg ca] σ) (fun v σ'=>v = B true∧Gr σ σ'):=by
  obtain ⟨_,y2,rfl,q1,ra⟩:=rl2 ha
  obtain rfl:=q1.of_flat
  obtain ⟨hr,hk⟩:=hsh
  refine Q3 (ht _ rfl) Tryz.func131 (by kernel_rfl) ?_
  rw [F131_eq]
  unfold K131_0
  refine Yn fun σ1 b1 e1 a1 _=>?_
  replace ra:=ra.ext e1
  obtain ⟨z,hz⟩:=Q6 (l:=ll) (j:=0) (by omega)
  refine Qb (Wv) ?_
  refine Qb (Qg a1.2 Wt rfl) ?_
  refine Qb (Qp W9 (ra)) ?_
  refine Qb (k_geqT (by omega)) ?_
  refine Qb (Qe (Wv)) ?_
  refine Qb (Qe (Qg a1.2 Wt rfl)) ?_
  refine Qb (Qe (Qp W9 (ra))) ?_
  refine Qb (Qe (k_leqT (by omega))) ?_
  refine Qb (rfl) ?_
  refine Qb (Qe (Wv)) ?_
  refine Qb (Qe (Qg a1.2 Wt rfl)) ?_
  refine Qb (Qe (rfl)) ?_
  refine y_gcyl rfl rfl (cf175 (n:=n + 1) (p:=fun _=>false) (caps:=[(b1,0)]) ht ra (by omega) rfl fun l hl s c e' r=>?_) fun v s ⟨hv',e'⟩=>?_
  · exact cl176 ht (a1.ext e') (ra.ext e') ⟨z,hz,hk z (List.mem_of_getElem? hz)⟩ r (hk l hl) h2
  · rw [any_no] at hv'
    subst hv'
    refine Qb (Qe Va) ?_
    refine Qb (rfl) ?_
    exact Qs ⟨rfl,e1.trans e'⟩
theorem cl177 (ht:Fr tab) {cv:CV} {l:List Bool} (hl:Rep ok σ cv (Zk l)) (hk:l.length < 1000000) :
    Ql (C M) tab (n + 3) 177 [.one cv] σ = some (B (l.any fun x=>true == x),σ):=by
  refine Xf (ht _ rfl) Tryz.func177 (by kernel_rfl) ?_
  rw [F177_eq]
  refine Yl.eq ?_
  unfold K177_0
  refine Xs rfl (ct178 (n:=n) ht hl hk) ?_
  exact Qs ⟨rfl,rfl⟩
theorem none_run (ht:Fr tab) {ca:List CV} {s:Nat} {ll:List (List Bool)} (ha:RepL ok σ ca [dW s,Jp ll]) (hf:Few ll) :
    Yl (Ql (C M) tab (n + 6) 132 [.agg ca] σ) (fun v σ'=>v = B (!(ll.any fun l=>l.any fun x=>true == x))∧Gr σ σ'):=by
  obtain ⟨_,y2,rfl,q1,ra⟩:=rl2 ha
  obtain rfl:=q1.of_flat
  refine Q3 (ht _ rfl) Tryz.func132 (by kernel_rfl) ?_
  rw [F132_eq]
  unfold K132_0
  refine Yn fun σ1 b1 e1 a1 _=>?_
  replace ra:=ra.ext e1
  refine Qb (Wv) ?_
  refine Qb (Qg a1.2 Wt rfl) ?_
  refine V4 rfl (cf175 (n:=n + 3) (p:=fun l=>l.any fun x=>true == x) (caps:=[]) ht ra hf.1 rfl fun l hl s c e' r=>?_) fun v s ⟨hv',e'⟩=>?_
  · exact y_of (cl177 (n:=n) ht r (hf.2 l hl)) ⟨rfl,Gr.refl _⟩
  · subst hv'
    refine Qb (Va) ?_
    exact Qs ⟨rfl,e1.trans e'⟩
theorem ne115 {σ:St}:Xe (C M) 115 σ = .new (.cells [.int .u64 0,.slice none 0 (.ex 0)] 115 true) (fun a=>P a 0):=by kernel_rfl
theorem ne117 {σ:St}:Xe (C M) 117 σ = .new (.cells [.int .u64 0,.slice none 0 (.ex 0),.str ⟨⟨[]⟩⟩,.int .i64 0] 117 true) (fun a=>P a 0):=by kernel_rfl
structure RSpb (seed ml mb:Nat) (b:Spb):Prop where
  seed:b.seed = seed
  shp:Shp b.rows ml mb
  lev:-1≤b.level∧b.level≤16
  none:b.level = -1 ↔ b.source = []∧∀ r ∈ b.rows,∀ x ∈ r,x = false
theorem none_iff {ll:List (List Bool)}:(!(ll.any fun l=>l.any fun x=>true == x)) = true ↔ ∀ r ∈ ll,∀ x ∈ r,x = false:=by
  simp
theorem spb_cells {cs:List CV} {x:Spb} (h:RepL ok σ cs x.d):∃ rv,cs = [.int .u64 x.seed,rv,.str ⟨⟨x.source⟩⟩,.int .i64 x.level]∧Rep ok σ rv (Jp x.rows):=by
  obtain ⟨_,rv,_,_,rfl,h1,h2,h3,h4⟩:=rl4 h
  obtain rfl:=h1.of_flat
  obtain rfl:=h3.of_flat
  obtain rfl:=h4.of_flat
  exact ⟨rv,rfl,h2⟩
theorem spread_right (ht:Fr tab) {ca:List CV} {x:Spr} (ha:RepL ok σ ca x.d) (hsd:x.seed < 18446744073709551616) {r k ml mb:Nat} (hsh:Shp x.rows r k) (h1:1≤r∧r≤7) (h2:1≤k∧k≤256) (h3:1≤ml∧ml≤16) (h4:1≤mb∧mb≤256) (hv:∀ r ∈ x.rows,∀ b ∈ r,RSpb (Xa x.seed 0) ml mb b) :
    Yl (Ql (C M) tab (n + 7) 72 [.agg ca] σ) (fun v σ'=>v = B true∧Gr σ σ'):=by
  obtain ⟨_,rv,rfl,q1,ra⟩:=rl2 ha
  obtain rfl:=q1.of_flat
  obtain ⟨hr,hk⟩:=hsh
  refine Q3 (ht _ rfl) Tryz.func72 (by kernel_rfl) ?_
  rw [F72_eq]
  unfold K72_0
  refine Yn fun σ1 b1 e1 a1 _=>?_
  replace ra:=ra.ext e1
  obtain ⟨z,hz⟩:=Q6 (l:=x.rows) (j:=0) (by omega)
  have hzl:=hk z (List.mem_of_getElem? hz)
  obtain ⟨b2,k2,zv,i2,a2,r2,_⟩:=Xg un41 sz111 ra hz
  unfold K72_1
  refine Qb (Ws) ?_
  refine Qb (Qg a1.2 ag41 rfl) ?_
  refine Qb (Qp un41 (ra)) ?_
  refine Qb (Q4 (by omega)) ?_
  refine Qb (Qe (Ws)) ?_
  refine Qb (Qe (Qg a1.2 ag41 rfl)) ?_
  refine Qb (Qe (Qp un41 (ra))) ?_
  refine Qb (Qe (Wy (by omega))) ?_
  refine Qb (rfl) ?_
  refine Qb (Qe (Ws)) ?_
  refine Qb (Qe (Qg a1.2 ag41 rfl)) ?_
  refine Qb (Qe (i2 _)) ?_
  refine Qb (Qe (Q8 a2.2 ag111 rfl)) ?_
  refine Qb (Qe (Qp un111 (r2))) ?_
  refine Qb (Qe (Q4 (by omega))) ?_
  refine Qb (rfl) ?_
  refine Qb (Qe (Ws)) ?_
  refine Qb (Qe (Qg a1.2 ag41 rfl)) ?_
  refine Qb (Qe (i2 _)) ?_
  refine Qb (Qe (Q8 a2.2 ag111 rfl)) ?_
  refine Qb (Qe (Qp un111 (r2))) ?_
  refine Qb (Qe (Wy (by omega))) ?_
  refine Qb (rfl) ?_
  refine Qx (rfl) ?_
  obtain ⟨w,hw⟩:=Q6 (l:=z) (j:=0) (by omega)
  obtain ⟨b3,k3,c3,i3,a3,r3,_⟩:=Yq un111 sz117 r2 hw
  obtain ⟨wv,rfl,p3⟩:=spb_cells r3
  have gw:=hv z (List.mem_of_getElem? hz) w (List.mem_of_getElem? hw)
  unfold K72_2
  refine y_atn fun s0 a e0 n0 hna=>X0 ?_
  have h0:=V9 (n:=n + 3) (b:=0) (σ:=s0) (ht _ rfl) (ht _ rfl) (ht _ rfl) (ht _ rfl) (ht _ rfl) hsd (by omega)
  refine Qf (fa43_0) ?_
  refine Qj (Qg (a1.ext e0).2 Zf rfl) rfl ?_
  refine Vd rfl (h0) ?_
  refine Qf (Ws) ?_
  refine Y1 rfl (Qg (a1.ext e0).2 ag41 rfl) (Qg (a1.ext e0).2 ag41 rfl) (Qg (a1.ext e0).2 ag41 rfl) rfl ?_
  refine Qf (i2 _) ?_
  refine Y1 rfl (Q8 (a2.ext e0).2 ag111 rfl) (Q8 (a2.ext e0).2 ag111 rfl) (Q8 (a2.ext e0).2 ag111 rfl) rfl ?_
  refine Qf (i3 _) ?_
  refine Qf (fa117_0) ?_
  refine Y1 rfl (Xt (a3.ext e0).2 ag115 sz115 rfl) (Xt (a3.ext e0).2 ag115 sz115 rfl) (Xt (a3.ext e0).2 ag115 sz115 rfl) rfl ?_
  refine y_dnw ne115 fun s1 n1 g1 o1=>?_
  simp only [na] at g1 o1 ⊢
  obtain ⟨s2,q2,n2,a4,o2⟩:=st_at (cs:=[.int .u64 w.seed,wv]) g1 rfl sz115 (by omega)
  refine X7 q2 ?_
  have e2:Gr σ1 s2:=⟨by omega,fun i hi=>by rw [o2 i (by omega),o1 i (by omega)]; exact e0.2 i hi⟩
  replace a1:=a1.ext e2
  replace a2:=a2.ext e2
  replace ra:=ra.ext e2
  replace r2:=r2.ext e2
  replace p3:=p3.ext e2
  have e:=e1.trans e2
  clear e0 n0 hna g1 o1 q2 o2 e1 e2 a3
  unfold K72_3
  refine Qb (Ws) ?_
  refine Qb (Qg a1.2 ag41 rfl) ?_
  refine Qb (Qp un41 (ra)) ?_
  unfold K72_5
  refine Yb (L:=fun f' j s=>L72_6 M (Ql (C M) tab (n + 6)) f' (P b1 0) (Iu (Xa x.seed (Int.toNat 0):Nat)) (P (a + 10) 0) (.one rv) (I (x.rows.length:Nat)) (I (j:Nat)) s) (n:=x.rows.length) (fun j s=>Gr s2 s) (fun f' j s hj hi hk'=>?_) (fun f' s hi=>?_) 0 M s2 (by omega) (by unfold M; omega) (Gr.refl _)
  · rw [L72_6_succ]
    obtain ⟨y,hy⟩:=Q6 hj
    have hyl:=hk y (List.mem_of_getElem? hy)
    obtain ⟨b5,k5,yv,i5,a5,r5,_⟩:=Xg un41 sz111 (ra.ext hi) hy
    have a1':=a1.ext hi
    have a2':=a2.ext hi
    unfold L72_6_b
    refine Qb (Xi (by omega)) ?_
    unfold K72_7
    refine Xc (rfl) ?_
    unfold K72_8
    refine Qb (i5 _) ?_
    refine Qb (Q8 a5.2 ag111 rfl) ?_
    unfold K72_10
    refine Qb (Qp un111 (r5)) ?_
    refine Qb (Ws) ?_
    refine Qb (Qg a1'.2 ag41 rfl) ?_
    refine Qb (i2 _) ?_
    refine Qb (Q8 a2'.2 ag111 rfl) ?_
    refine Qb (Qp un111 ((r2.ext hi))) ?_
    refine Qb (Xd (by omega)) ?_
    refine Qx (rfl) ?_
    unfold K72_11
    refine Qb (Qp un111 (r5)) ?_
    unfold K72_12
    refine Yb (L:=fun f2 i s=>L72_13 M (Ql (C M) tab (n + 6)) (L72_6 M (Ql (C M) tab (n + 6)) f') f2 (P b1 0) (Iu (Xa x.seed (Int.toNat 0):Nat)) (P (a + 10) 0) (.one rv) (I (x.rows.length:Nat)) (I (j:Nat)) (.one yv) (I (y.length:Nat)) (I (i:Nat)) s) (n:=y.length) (fun i s'=>Gr s s') (fun f2 i s' hi2 hs hk2=>?_) (fun f2 s' hs=>?_) 0 M s (by omega) (by unfold M; omega) (Gr.refl _)
    · rw [L72_13_succ]
      obtain ⟨u,hu⟩:=Q6 hi2
      obtain ⟨b6,k6,c6,i6,a6,r6,_⟩:=Yq un111 sz117 (r5.ext hs) hu
      obtain ⟨uv,rfl,p6⟩:=spb_cells r6
      have gu:=hv y (List.mem_of_getElem? hy) u (List.mem_of_getElem? hu)
      unfold L72_13_b
      refine Qb (Xi (by omega)) ?_
      unfold K72_14
      refine Xc (rfl) ?_
      unfold K72_15
      refine Qb (i6 _) ?_
      refine Qb (Q7 a6.2 ag117 sz117 rfl) ?_
      refine y_cpy ne117 sz117 rfl rfl fun s3 b7 e3 a7 _=>?_
      obtain ⟨_,s4,c4,rfl,e4⟩:=bitmap_right (n:=n + 2) (ca:=[.int .u64 u.seed,uv]) ht (.cons (.flat rfl) (.cons (p6.ext e3) .nil)) gu.shp h3 h4
      have e34:=e3.trans e4
      have a7':=a7.ext e4
      have a4':=(a4.ext (hi.trans hs)).ext e34
      replace p6:=p6.ext e34
      have w4:=(p3.ext (hi.trans hs)).ext e34
      have lu:=gu.shp.1
      have lw:=gw.shp.1
      obtain ⟨m1,hm1⟩:=Q6 (l:=u.rows) (j:=0) (by omega)
      obtain ⟨m2,hm2⟩:=Q6 (l:=w.rows) (j:=0) (by omega)
      have lm1:=gu.shp.2 m1 (List.mem_of_getElem? hm1)
      have lm2:=gw.shp.2 m2 (List.mem_of_getElem? hm2)
      obtain ⟨b8,k8,c8,i8,a8,r8,_⟩:=Xg W9 sz32 p6 hm1
      obtain ⟨b9,k9,c9,i9,a9,r9,_⟩:=Xg W9 sz32 w4 hm2
      have lev:=gu.lev
      unfold K72_17
      refine X0 ?_
      refine Qf (fa117_0) ?_
      refine Qj (Xt a7.2 ag115 sz115 rfl) rfl ?_
      refine Vd rfl (c4) ?_
      refine Qf (Va) ?_
      refine Qf (Qe (fa117_0)) ?_
      refine Qf (Qe (fa115_0)) ?_
      refine Qj (Qe (Qg (i:=0) a7'.2 Zf rfl)) rfl ?_
      refine Qf (Qe (rfl)) ?_
      refine Qf (Qe (u_neqF (congrArg Nat.cast gu.seed))) ?_
      refine Qf (rfl) ?_
      refine Qf (Qe (fa117_0)) ?_
      refine Qf (Qe (Wv)) ?_
      refine Qj (Qe (Qg (i:=1) a7'.2 Wt rfl)) rfl ?_
      refine Qj (Qe (Qp W9 p6)) rfl ?_
      refine Qf (Qe (Wv)) ?_
      refine Qj (Qe (Qg a4'.2 Wt rfl)) rfl ?_
      refine Qj (Qe (Qp W9 (w4))) rfl ?_
      refine Qf (Qe (Xd (by omega))) ?_
      refine Qf (rfl) ?_
      refine Qf (Qe (fa117_0)) ?_
      refine Qf (Qe (Wv)) ?_
      refine Qj (Qe (Qg (i:=1) a7'.2 Wt rfl)) rfl ?_
      refine Qf (Qe (i8 _)) ?_
      refine Qj (Qe (Q8 a8.2 ag32 rfl)) rfl ?_
      refine Qj (Qe (Qp un32 (r8))) rfl ?_
      refine Qf (Qe (Wv)) ?_
      refine Qj (Qe (Qg a4'.2 Wt rfl)) rfl ?_
      refine Qf (Qe (i9 _)) ?_
      refine Qj (Qe (Q8 a9.2 ag32 rfl)) rfl ?_
      refine Qj (Qe (Qp un32 (r9))) rfl ?_
      refine Qf (Qe (Xd (by omega))) ?_
      refine Qf (rfl) ?_
      refine Qf (Qe (fa117_2)) ?_
      refine Qj (Qe (Qg a7'.2 ag3 rfl)) rfl ?_
      refine Qf (Qe (Q4 (by omega))) ?_
      refine Qf (rfl) ?_
      refine Qf (Qe (fa117_2)) ?_
      refine Qj (Qe (Qg a7'.2 ag3 rfl)) rfl ?_
      refine Qf (Qe (Wy (by omega))) ?_
      refine Qf (rfl) ?_
      refine Qx (rfl) ?_
      by_cases hsrc:u.source = []
      · obtain ⟨_,s5,c5,hq,e5⟩:=none_run (n:=n) (σ:=s4) (ca:=[.int .u64 u.seed,uv]) ht (.cons (.flat rfl) (.cons p6 .nil)) ⟨by omega,fun l hl=>by have:=gu.shp.2 l hl; omega⟩
        subst hq
        refine Qb (fa117_1) ?_
        refine Qb (Qg a7'.2 ag9 rfl) ?_
        refine Qb (s_eqlT hsrc) ?_
        refine Qb (Qe (fa117_0)) ?_
        refine Qb (Qe (Xt a7'.2 ag115 sz115 rfl)) ?_
        refine V8 rfl rfl (c5) ?_
        refine Qb (rfl) ?_
        have lv:(u.level == -1) = (!(u.rows.any fun l=>l.any fun x=>true == x)):=by
          rw [Bool.eq_iff_iff,none_iff,beq_iff_eq,gu.none]
          exact ⟨fun h=>h.2,fun h=>⟨hsrc,h⟩⟩
        refine Qb (fa117_2) ?_
        refine Qb (Qg (a7'.ext e5).2 ag3 rfl) ?_
        refine Qb (o_eql) ?_
        refine Qb (b_neqF lv) ?_
        refine Qx (rfl) ?_
        unfold K72_16
        refine Qb (Xy (by omega)) ?_
        exact hk2 _ ((hs.trans e34).trans e5)
      · have lv:(u.level == -1) = false:=by
          rw [beq_eq_false_iff_ne]
          intro h
          exact hsrc (gu.none.mp h).1
        refine Qb (fa117_1) ?_
        refine Qb (Qg a7'.2 ag9 rfl) ?_
        refine Qb (s_eqlF hsrc) ?_
        refine Qb (Vr) ?_
        refine Qb (Vr) ?_
        refine Qb (Vr) ?_
        refine Qb (rfl) ?_
        refine Qb (fa117_2) ?_
        refine Qb (Qg a7'.2 ag3 rfl) ?_
        refine Qb (o_eql) ?_
        refine Qb (b_neqF lv) ?_
        refine Qx (rfl) ?_
        unfold K72_16
        refine Qb (Xy (by omega)) ?_
        exact hk2 _ (hs.trans e34)
    · rw [L72_13_succ]
      unfold L72_13_b
      refine Qb (Q4 (by omega)) ?_
      unfold K72_14
      refine Qx (rfl) ?_
      unfold Xm
      refine Qb (Xy (by omega)) ?_
      exact hk' _ (hi.trans hs)
  · rw [L72_6_succ]
    unfold L72_6_b
    refine Qb (Q4 (by omega)) ?_
    unfold K72_7
    refine Qx (rfl) ?_
    unfold Xx
    exact Qs ⟨rfl,e.trans hi⟩
end
end Core
end Go.Proofs.YtjfgdcegpgoobaaGreatDoor
namespace Go.Proofs.YtjfgdcegpgoobaaGreatDoor
open Go.Run Go
namespace Core
open Ty
set_option maxRecDepth 1000000
section
variable {n:Nat} {σ:St} {tab:Tab} {ok:Nat→Prop}
theorem bkt_right (ht:Fr tab) {ca:List CV} {x:Bkt} {room:Int} (ha:RepL ok σ ca x.d) (h:GBkt room x) (hr:0≤room):Yl (Ql (C M) tab (n + 3) 126 [.agg ca,I room] σ) (fun v σ'=>v = B true∧Gr σ σ'):=by
  obtain ⟨x1,_,rfl,ra,q1⟩:=rl2 ha
  obtain rfl:=q1.of_flat
  obtain ⟨he,ag⟩:=h
  unfold M40 at ag
  refine Q3 (ht _ rfl) Tryz.func126 (by kernel_rfl) ?_
  rw [F126_eq]
  unfold K126_0
  refine Yn fun σ1 b1 e1 a1 _=>?_
  replace ra:=ra.ext e1
  have hl:x.ents.length = 0:=by rw [he]; rfl
  unfold K126_1
  refine Qb (fa87_0) ?_
  refine Qb (Qg a1.2 ag85 rfl) ?_
  refine Qb (Qp un85 (ra)) ?_
  unfold K126_3
  refine Yb (L:=fun f' j s=>L126_4 M (Ql (C M) tab (n + 2)) f' (I room) (P b1 0) (.one x1) (I (x.ents.length:Nat)) (I (j:Nat)) s) (n:=x.ents.length) (fun j s=>s = σ1) (fun f' j s hj hi hk=>?_) (fun f' s hi=>?_) 0 M σ1 (by omega) (by unfold M; omega) rfl
  · omega
  · subst hi
    rw [L126_4_succ]
    unfold L126_4_b
    refine Qb (Q4 (by omega)) ?_
    unfold K126_5
    refine Qx (rfl) ?_
    unfold Zp
    refine Qb (fa87_0) ?_
    refine Qb (Qg a1.2 ag85 rfl) ?_
    refine Qb (Qp un85 (ra)) ?_
    refine Qb (k_leqT (by omega)) ?_
    refine Qb (Qe (fa87_1)) ?_
    refine Qb (Qe (Qg a1.2 ag3 rfl)) ?_
    refine Qb (Qe (k_geqT (by omega))) ?_
    refine Qb (rfl) ?_
    refine Qb (Qe (fa87_1)) ?_
    refine Qb (Qe (Qg a1.2 ag3 rfl)) ?_
    refine Qb (Qe (k_leqT (by omega))) ?_
    refine Qb (rfl) ?_
    exact Qs ⟨rfl,e1⟩
theorem bkt_cells {cs:List CV} {x:Bkt} (h:RepL ok σ cs x.d):∃ ev,cs = [ev,.int .i64 x.against]∧Rep ok σ ev (.sl 3 (x.ents.map Ent.d)):=by
  obtain ⟨ev,_,rfl,h1,h2⟩:=rl2 h
  obtain rfl:=h2.of_flat
  exact ⟨ev,rfl,h1⟩
theorem cl125 (ht:Fr tab) {ca:List CV} {x:Bkt} {b:Nat} {cs:List CV} {room:Int} (ha:RepL ok σ ca x.d) (h:GBkt room x) (hr:0≤room) (hb:At σ b 0 cs) (hc:cs[1]? = some (.int .i64 room)) :
    Yl (Ql (C M) tab (n + 4) 125 [.agg ca,P b 0] σ) (fun v σ'=>v = B false∧Gr σ σ'):=by
  obtain ⟨ev,rfl,p⟩:=bkt_cells ha
  refine Q3 (ht _ rfl) Tryz.func125 (by kernel_rfl) ?_
  rw [F125_eq]
  unfold K125_0
  refine Yn fun σ1 b1 e1 a1 _=>?_
  obtain ⟨_,σ2,c2,rfl,e2⟩:=bkt_right (n:=n) ht (ha.ext e1) h hr
  refine Qb (Q7 a1.2 ag87 sz87 rfl) ?_
  refine Qb (fa31_1) ?_
  refine Qb (Qg (i:=1) (hb.ext e1).2 ag3 hc) ?_
  refine Xs rfl (c2) ?_
  refine Qb (Va) ?_
  exact Qs ⟨rfl,e1.trans e2⟩
theorem elastic_right (ht:Fr tab) {ca:List CV} {x:Els} (ha:RepL ok σ ca x.d) (hsd:x.seed < 18446744073709551616) (hroom:1≤x.room∧x.room≤8) (hvo:1≤x.votes∧x.votes≤64) (hbk:1≤x.buckets.length∧x.buckets.length≤256) (hls:x.lseed = Xa x.seed 1) (hmost:x.most = 255) {r k:Nat} (hsh:Shp x.rows r k) (h1:1≤r∧r≤7) (h2:1≤k∧k≤256) (hv:∀ r ∈ x.rows,∀ c ∈ r,0≤c∧c≤255) (hb:∀ b ∈ x.buckets,GBkt x.room b) :
    Yl (Ql (C M) tab (n + 7) 69 [.agg ca] σ) (fun v σ'=>v = B true∧Gr σ σ'):=by
  obtain ⟨_,_,_,y4,_,_,y7,rfl,q1,q2,q3,ra,q5,q6,r7⟩:=rl7 ha
  obtain rfl:=q1.of_flat
  obtain rfl:=q2.of_flat
  obtain rfl:=q3.of_flat
  obtain rfl:=q5.of_flat
  obtain rfl:=q6.of_flat
  refine Q3 (ht _ rfl) Tryz.func69 (by kernel_rfl) ?_
  rw [F69_eq]
  unfold K69_0
  refine Yn fun σ1 b1 e1 a1 _=>?_
  replace ra:=ra.ext e1
  have hr4:RepL ok σ1 [.int .u64 x.lseed,.int .i64 x.most,y7] [dW x.lseed,dI x.most,V1 x.rows]:=.cons (.flat rfl) (.cons (.flat rfl) (.cons (r7.ext e1) .nil))
  obtain ⟨_,σ2,c2,rfl,e2⟩:=least_right (n:=n + 4) ht hr4 (by rw [hmost]; decide) hsh h1 h2 (by rw [hmost]; exact hv)
  have h0:=V9 (n:=n + 3) (b:=1) (σ:=σ2) (ht _ rfl) (ht _ rfl) (ht _ rfl) (ht _ rfl) (ht _ rfl) hsd (by omega)
  refine X0 ?_
  refine Qf (fa31_1) ?_
  refine Qj (Qg a1.2 ag3 rfl) rfl ?_
  refine Qf (k_geqT (by omega)) ?_
  refine Qf (Qe (fa31_1)) ?_
  refine Qj (Qe (Qg a1.2 ag3 rfl)) rfl ?_
  refine Qf (Qe (k_leqT (by omega))) ?_
  refine Qf (rfl) ?_
  refine Qf (Qe (fa31_2)) ?_
  refine Qj (Qe (Qg a1.2 ag3 rfl)) rfl ?_
  refine Qf (Qe (k_geqT (by omega))) ?_
  refine Qf (rfl) ?_
  refine Qf (Qe (fa31_2)) ?_
  refine Qj (Qe (Qg a1.2 ag3 rfl)) rfl ?_
  refine Qf (Qe (k_leqT (by omega))) ?_
  refine Qf (rfl) ?_
  refine Qf (Qe (fa31_3)) ?_
  refine Qj (Qe (Qg a1.2 ag26 rfl)) rfl ?_
  refine Qj (Qe (Qp un26 (ra))) rfl ?_
  refine Qf (Qe (k_geqT (by omega))) ?_
  refine Qf (rfl) ?_
  refine Qf (Qe (fa31_3)) ?_
  refine Qj (Qe (Qg a1.2 ag26 rfl)) rfl ?_
  refine Qj (Qe (Qp un26 (ra))) rfl ?_
  refine Qf (Qe (k_leqT (by omega))) ?_
  refine Qf (rfl) ?_
  refine Qf (Qe (fa31_4)) ?_
  refine Qj (Qe (Xt a1.2 ag29 sz29 rfl)) rfl ?_
  refine y_dgc rfl rfl c2 ?_
  refine Qf (rfl) ?_
  replace ra:=ra.ext e2
  replace a1:=a1.ext e2
  refine Qf (Qe (fa31_0)) ?_
  refine Qj (Qe (Qg a1.2 Zf rfl)) rfl ?_
  refine y_dgc rfl rfl h0 ?_
  refine Qf (Qe (fa31_4)) ?_
  refine Qf (Qe (fa29_0)) ?_
  refine Y1 rfl (Qg (i:=4) a1.2 Zf rfl) (Qg (i:=4) a1.2 Zf rfl) (Qg (i:=4) a1.2 Zf rfl) rfl ?_
  refine Qf (Qe (u_eqlT (congrArg Nat.cast hls))) ?_
  refine Qf (rfl) ?_
  refine Qf (Qe (fa31_4)) ?_
  refine Qf (Qe (fa29_1)) ?_
  refine Qj (Qe (Qg (i:=5) a1.2 ag3 rfl)) rfl ?_
  refine Qf (Qe (J6 (by omega))) ?_
  refine Qf (rfl) ?_
  refine Qf (Qe (fa31_3)) ?_
  refine Qj (Qe (Qg a1.2 ag26 rfl)) rfl ?_
  refine Qf (Qe (rfl)) ?_
  have any:=cf124 (n:=n + 4) (p:=fun _=>false) (caps:=[(b1,0)]) ht ra (by omega) rfl fun b hbm s c e' r=>cl125 ht r (hb b hbm) (by omega) (a1.ext e') rfl
  obtain ⟨v,σ3,c3,hv3,e3⟩:=any
  rw [any_no] at hv3
  subst hv3
  refine y_dgc rfl rfl c3 ?_
  refine Qf (Qe Va) ?_
  refine Qf (rfl) ?_
  exact Qs ⟨rfl,(e1.trans e2).trans e3⟩
theorem top_right (ht:Fr tab) {cv:CV} {l:List Itm} (ha:Rep ok σ cv (.sl 2 (l.map Itm.d))) (h:l = []):Yl (Ql (C M) tab (n + 3) 130 [.one cv] σ) (fun v σ'=>v = B true∧Gr σ σ'):=by
  have hl:l.length = 0:=by rw [h]; rfl
  refine Q3 (ht _ rfl) Tryz.func130 (by kernel_rfl) ?_
  rw [F130_eq]
  unfold K130_0
  unfold K130_1
  refine Qb (Qp un101 (ha)) ?_
  unfold K130_3
  refine Yb (L:=fun f' j s=>L130_4 M (Ql (C M) tab (n + 2)) f' (.one cv) (.one cv) (I (l.length:Nat)) (I (j:Nat)) s) (n:=l.length) (fun j s=>s = σ) (fun f' j s hj hi hk=>?_) (fun f' s hi=>?_) 0 M σ (by omega) (by unfold M; omega) rfl
  · omega
  · subst hi
    rw [L130_4_succ]
    unfold L130_4_b
    refine Qb (Q4 (by omega)) ?_
    unfold K130_5
    refine Qx (rfl) ?_
    unfold Zu
    exact Qs ⟨rfl,Gr.refl _⟩
theorem ne103 {σ:St}:Xe (C M) 103 σ = .new (.cells [.int .u64 0,.slice none 0 (.ex 0),.slice none 0 (.ex 0)] 103 true) (fun a=>P a 0):=by kernel_rfl
theorem ne100 {σ:St}:Xe (C M) 100 σ = .new (.cells [.int .u64 0,.slice none 0 (.ex 0)] 100 true) (fun a=>P a 0):=by kernel_rfl
theorem lvl_cells {cs:List CV} {x:Lvl} (h:RepL ok σ cs x.d):∃ rv tv,cs = [.int .u64 x.seed,rv,tv]∧Rep ok σ rv (V1 x.rows)∧Rep ok σ tv (.sl 2 (x.top.map Itm.d)):=by
  obtain ⟨_,rv,tv,rfl,h1,h2,h3⟩:=rl3 h
  obtain rfl:=h1.of_flat
  exact ⟨rv,tv,rfl,h2,h3⟩
structure RLvl (seed r k:Nat) (l:Lvl):Prop where
  seed:l.seed = seed
  shp:Shp l.rows r k
  vals:∀ r ∈ l.rows,∀ n ∈ r,-M40≤n∧n≤M40
  top:l.top = []
theorem univ_right (ht:Fr tab) {ca:List CV} {x:Unv} (ha:RepL ok σ ca x.d) (hsd:x.seed < 18446744073709551616) (hroom:1≤x.room∧x.room≤64) (hlv:1≤x.levels.length∧x.levels.length≤16) {r k:Nat} (h1:1≤r∧r≤7∧r % 2 = 1) (h2:1≤k∧k≤256) (hv:∀ j l,x.levels[j]? = some l→RLvl (Xa x.seed (j + 1)) r k l) :
    Yl (Ql (C M) tab (n + 9) 71 [.agg ca] σ) (fun v σ'=>v = B true∧Gr σ σ'):=by
  obtain ⟨_,_,lv,rfl,q1,q2,ra⟩:=rl3 ha
  obtain rfl:=q1.of_flat
  obtain rfl:=q2.of_flat
  refine Q3 (ht _ rfl) Tryz.func71 (by kernel_rfl) ?_
  rw [F71_eq]
  unfold K71_0
  refine Yn fun σ1 b1 e1 a1 _=>?_
  replace ra:=ra.ext e1
  obtain ⟨z,hz⟩:=Q6 (l:=x.levels) (j:=0) (by omega)
  have gz:=hv 0 z hz
  obtain ⟨b2,k2,c2,i2,a2,r2,_⟩:=Yq un38 sz103 ra hz
  obtain ⟨zv,zt,rfl,p2,_⟩:=lvl_cells r2
  unfold K71_1
  refine Qb (fa40_1) ?_
  refine Qb (Qg a1.2 ag3 rfl) ?_
  refine Qb (Q4 (by omega)) ?_
  refine Qb (Qe (fa40_1)) ?_
  refine Qb (Qe (Qg a1.2 ag3 rfl)) ?_
  refine Qb (Qe (Wy (by omega))) ?_
  refine Qb (rfl) ?_
  refine Qb (Qe (fa40_2)) ?_
  refine Qb (Qe (Qg a1.2 ag38 rfl)) ?_
  refine Qb (Qe (Qp un38 (ra))) ?_
  refine Qb (Qe (Q4 (by omega))) ?_
  refine Qb (rfl) ?_
  refine Qb (Qe (fa40_2)) ?_
  refine Qb (Qe (Qg a1.2 ag38 rfl)) ?_
  refine Qb (Qe (Qp un38 (ra))) ?_
  refine Qb (Qe (Wy (by omega))) ?_
  refine Qb (rfl) ?_
  refine Qx (rfl) ?_
  unfold K71_2
  refine Qb (fa40_2) ?_
  refine Qb (Qg a1.2 ag38 rfl) ?_
  refine Qb (i2 _) ?_
  refine Qb (fa103_0) ?_
  refine Qb (Xt a2.2 ag100 sz100 rfl) ?_
  refine y_cpy ne100 sz100 rfl rfl fun σ2 b3 e2 a3 _=>?_
  replace a1:=a1.ext e2
  replace ra:=ra.ext e2
  replace p2:=p2.ext e2
  have e:=e1.trans e2
  unfold K71_3
  refine Qb (fa40_2) ?_
  refine Qb (Qg a1.2 ag38 rfl) ?_
  refine Qb (Qp un38 (ra)) ?_
  unfold K71_5
  refine Yb (L:=fun f' j s=>L71_6 M (Ql (C M) tab (n + 8)) f' (P b1 0) (P b3 0) (.one lv) (I (x.levels.length:Nat)) (I (j:Nat)) s) (n:=x.levels.length) (fun j s=>Gr σ2 s) (fun f' j s hj hi hk=>?_) (fun f' s hi=>?_) 0 M σ2 (by omega) (by unfold M; omega) (Gr.refl _)
  · rw [L71_6_succ]
    obtain ⟨y,hy⟩:=Q6 hj
    have gy:=hv j y hy
    obtain ⟨b4,k4,c4,i4,a4,r4,_⟩:=Yq un38 sz103 (ra.ext hi) hy
    obtain ⟨yv,yt,rfl,p4,t4⟩:=lvl_cells r4
    unfold L71_6_b
    refine Qb (Xi (by omega)) ?_
    unfold K71_7
    refine Xc (rfl) ?_
    unfold K71_8
    refine Qb (i4 _) ?_
    refine Qb (Q7 a4.2 ag103 sz103 rfl) ?_
    refine y_cpy ne103 sz103 rfl rfl fun s3 b5 e3 a5 _=>?_
    refine Qb (fa103_0) ?_
    refine Qb (Xt a5.2 ag100 sz100 rfl) ?_
    refine y_cpy ne100 sz100 rfl rfl fun s4 b6 e4 a6 _=>?_
    have e34:=e3.trans e4
    obtain ⟨_,s5,c5,rfl,e5⟩:=signed_right (n:=n) (ca:=[.int .u64 y.seed,yv]) ht (.cons (.flat rfl) (.cons (p4.ext e34) .nil)) gy.shp ⟨h1.2.1,h1.2.2⟩ h2 gy.vals
    have h0:=V9 (n:=n + 5) (b:=(j:Int) + 1) (σ:=s5) (ht _ rfl) (ht _ rfl) (ht _ rfl) (ht _ rfl) (ht _ rfl) hsd (by omega)
    have e35:=e34.trans e5
    have p4':=p4.ext e35
    have p2':=(p2.ext hi).ext e35
    have ly:=gy.shp.1
    have lz:=gz.shp.1
    obtain ⟨m1,hm1⟩:=Q6 (l:=y.rows) (j:=0) (by omega)
    obtain ⟨m2,hm2⟩:=Q6 (l:=z.rows) (j:=0) (by omega)
    have lm1:=gy.shp.2 m1 (List.mem_of_getElem? hm1)
    have lm2:=gz.shp.2 m2 (List.mem_of_getElem? hm2)
    obtain ⟨b8,k8,c8,i8,a8,r8,_⟩:=Xg Jj sz25 p4' hm1
    obtain ⟨b9,k9,c9,i9,a9,r9,_⟩:=Xg Jj sz25 p2' hm2
    have tl:y.top.length = 0:=by rw [gy.top]; rfl
    obtain ⟨_,s6,c6,rfl,e6⟩:=top_right (n:=n + 5) ht (t4.ext e35) gy.top
    refine X0 ?_
    refine Qj (Q7 a6.2 ag100 sz100 rfl) rfl ?_
    refine Vd rfl (c5) ?_
    refine Qf (Va) ?_
    have hsd':((y.seed:Nat):Int) = ((Xa x.seed ((j:Int) + 1).toNat:Nat):Int):=by
      rw [gy.seed,show ((j:Int) + 1).toNat = j + 1 by omega]
    have a1':=(a1.ext hi).ext e35
    have a3':=(a3.ext hi).ext e35
    have a5':=a5.ext (e4.trans e5)
    have a6':=a6.ext e5
    refine Qf (Qe (fa40_0)) ?_
    refine Qj (Qe (Qg a1'.2 Zf rfl)) rfl ?_
    refine Qf (Qe (rfl)) ?_
    refine Qf (Qe (o_addw (by omega) (by omega))) ?_
    refine y_dgc rfl rfl h0 ?_
    refine Qf (Qe (fa100_0)) ?_
    refine Y1 rfl (Qg a6'.2 Zf rfl) (Qg a6'.2 Zf rfl) (Qg a6'.2 Zf rfl) rfl ?_
    refine Qf (Qe (u_neqF hsd')) ?_
    refine Qf (rfl) ?_
    refine Qf (Qe (Ja)) ?_
    refine Qj (Qe (Qg a6'.2 ag27 rfl)) rfl ?_
    refine Qj (Qe (Qp Jj (p4'))) rfl ?_
    refine Qf (Qe (Ja)) ?_
    refine Qj (Qe (Qg a3'.2 ag27 rfl)) rfl ?_
    refine Qj (Qe (Qp Jj (p2'))) rfl ?_
    refine Qf (Qe (Xd (by omega))) ?_
    refine Qf (rfl) ?_
    refine Qf (Qe (Ja)) ?_
    refine Qj (Qe (Qg a6'.2 ag27 rfl)) rfl ?_
    refine Qf (Qe (i8 _)) ?_
    refine Qj (Qe (Q8 a8.2 Ng rfl)) rfl ?_
    refine Qj (Qe (Qp Vj (r8))) rfl ?_
    refine Qf (Qe (Ja)) ?_
    refine Qj (Qe (Qg a3'.2 ag27 rfl)) rfl ?_
    refine Qf (Qe (i9 _)) ?_
    refine Qj (Qe (Q8 a9.2 Ng rfl)) rfl ?_
    refine Qj (Qe (Qp Vj (r9))) rfl ?_
    refine Qf (Qe (Xd (by omega))) ?_
    refine Qf (rfl) ?_
    refine Qf (Qe (fa103_1)) ?_
    refine Qj (Qe (Qg a5'.2 ag101 rfl)) rfl ?_
    refine Qj (Qe (Qp un101 ((t4.ext e35)))) rfl ?_
    refine Qf (Qe (fa40_1)) ?_
    refine Qj (Qe (Qg a1'.2 ag3 rfl)) rfl ?_
    refine Qf (Qe (Wy (by omega))) ?_
    refine Qf (rfl) ?_
    refine Qf (Qe (fa103_1)) ?_
    refine Qj (Qe (Qg a5'.2 ag101 rfl)) rfl ?_
    refine y_dgc rfl rfl c6 ?_
    refine Qf (Qe (Va)) ?_
    refine Qf (rfl) ?_
    refine Qx (rfl) ?_
    unfold K71_9
    refine Qb (Xy (by omega)) ?_
    exact hk _ ((hi.trans e35).trans e6)
  · rw [L71_6_succ]
    unfold L71_6_b
    refine Qb (Q4 (by omega)) ?_
    unfold K71_7
    refine Qx (rfl) ?_
    unfold V0
    exact Qs ⟨rfl,e.trans hi⟩
end
end Core
end Go.Proofs.YtjfgdcegpgoobaaGreatDoor
namespace Go.Proofs.YtjfgdcegpgoobaaGreatDoor
open Go.Run Go
namespace Core
open Ty
set_option maxRecDepth 1000000
theorem y_pair {σ:St} {Q:AV→St→Prop} {S T n i j f off b1 b2:Nat} {c1 c2 z:List CV} {K:AV→AV→Kt} (hf1:∀ σ,Qh (C M) S (P b1 0) f σ = .val (P b1 (0 + off))) (hf2:∀ σ,Qh (C M) S (P b2 0) f σ = .val (P b2 (0 + off)))
    (l1:∀ s,Gr σ s→ldO (C M) T (P b1 (0 + off)) s = .val (.agg c1)) (l2:∀ s,Gr σ s→ldO (C M) T (P b2 (0 + off)) s = .val (.agg c2)) (o1:okV (.agg c1) = true) (o2:okV (.agg c2) = true)
    (hz:∀ σ,Xe (C M) T σ = .new (.cells z T true) (fun a=>P a 0)) (hs1:size (C M) T = some c1.length) (hs2:size (C M) T = some c2.length) (hz1:z.length = c1.length) (hz2:z.length = c2.length) (hi:i < n) (hj:j < n) (hij:i ≠ j)
    (hk:∀ s p1 p2,Gr σ s→At s p1 0 c1→At s p2 0 c2→Yl (K (P p1 0) (P p2 0) s) Q) :
    Yl (atN n (fun v0=>dIn fun sv0=>Qk (Qh (C M) S (P b1 0) f) fun v1=>Qr (ldO (C M) T v1) fun v2=>Vw (Xe (C M) T) (Nat.add v0 i) fun v3=>Vw (Xe (C M) T) (Nat.add v0 j) fun v4=>Xn (stO (C M) T v3 v2) fun _ sv5=>Qk (Qh (C M) S (P b2 0) f) fun v6=>
      Ze (some true) (ldO (C M) T v6) (fun v7=>(Xk (ldO (C M) T v6) v7 sv5 && (Xk (ldO (C M) T v6) v7 sv0 && true))) fun v8=>Xn (stO (C M) T v4 v8) fun _ _=>K v3 v4) σ) Q:=by
  refine y_atn fun s0 a e0 n0 hna=>X0 ?_
  refine Qf (hf1 _) (Qj (l1 _ e0) o1 ?_)
  refine y_dnw (hz _) fun s1 n1 g1 w1=>y_dnw (hz _) fun s2 n2 g2 w2=>?_
  simp only [na] at g1 w1 g2 w2 ⊢
  have e2:Gr σ s2:=⟨by omega,fun i hi=>by rw [w2 i (by omega),w1 i (by omega)]; exact e0.2 i hi⟩
  obtain ⟨s3,q3,n3,a5,w3⟩:=st_at (cs:=c1) ((w2 (a + i) (by omega)).trans g1) hz1 hs1 (by omega)
  refine X7 q3 ?_
  have e3:Gr σ s3:=⟨by omega,fun i hi=>by rw [w3 i (by omega)]; exact e2.2 i hi⟩
  refine Qf (hf2 _) (Y1 rfl (l2 _ e3) (l2 _ e3) (l2 _ e0) o2 ?_)
  obtain ⟨s4,q4,n4,a6,w4⟩:=st_at (cs:=c2) ((w3 (a + j) (by omega)).trans g2) hz2 hs2 (by omega)
  refine X7 q4 ?_
  exact hk s4 _ _ ⟨by omega,fun i hi=>by rw [w4 i (by omega)]; exact e3.2 i hi⟩ ⟨by omega,a5.2.to (w4 _ (by omega))⟩ a6
structure COk (c:Cfg):Prop where
  bk:1≤c.bk∧c.bk≤256
  en:1≤c.en∧c.en≤8
  vo:1≤c.vo∧c.vo≤64
  lr:1≤c.lr∧c.lr≤7
  lc:1≤c.lc∧c.lc≤256
  fb:1≤c.fb∧c.fb≤256
  fh:1≤c.fh∧c.fh≤7
  rr:1≤c.rr∧c.rr≤7
  rc:1≤c.rc∧c.rc≤256
  lv:1≤c.lv∧c.lv≤16
  sr:1≤c.sr∧c.sr≤7
  odd:Int.tmod c.sr 2 ≠ 0
  sc:1≤c.sc∧c.sc≤256
  tp:1≤c.tp∧c.tp≤64
  xr:1≤c.xr∧c.xr≤7
  xc:1≤c.xc∧c.xc≤256
  ml:1≤c.ml∧c.ml≤16
  mb:1≤c.mb∧c.mb≤256
theorem cfg_ok {c:Cfg} (h:Wd c = false):COk c:=by
  unfold Wd Y6 W6 radBad Jq Vp Y5 Ve V7 at h
  simp only [Bool.or_eq_false_iff,decide_eq_false_iff_not,beq_eq_false_iff_ne] at h
  constructor <;> first | omega | (exact h.1.1.2.2.1.1.2) | skip
theorem odd_nat {r:Int} (h:1≤r) (ho:Int.tmod r 2 ≠ 0):r.toNat % 2 = 1:=by
  obtain ⟨n,rfl⟩:∃ n:Nat,r = (n:Int):=⟨r.toNat,by omega⟩
  have:Int.tmod (n:Int) 2 = ((n % 2:Nat):Int):=rfl
  rw [this] at ho
  rw [Int.toNat_natCast]
  omega
theorem Wb {ok:Nat→Prop} {σ:St} {cs:List CV} {b:Bnk} (h:RepL ok σ cs b.d):∃ rj bv lv fv rr uv sv,
    cs = b.cfg.cells ++ [.int .i64 b.packets,.int .i64 b.bytes,rj,.int .u64 b.els.seed,.int .i64 b.els.room,.int .i64 b.els.votes,bv,.int .u64 b.els.lseed,.int .i64 b.els.most,lv,.int .u64 b.rad.seed,.int .u64 b.rad.fseed,.int .i64 b.rad.hashes,fv,rr,.int .u64 b.unv.seed,.int .i64 b.unv.room,uv,.int .u64 b.spr.seed,sv] ∧
    Rep ok σ rj (Ww b.rejects)∧Rep ok σ bv (.sl 2 (b.els.buckets.map Bkt.d))∧Rep ok σ lv (V1 b.els.rows)∧Rep ok σ fv (Zk b.rad.bits)∧Rep ok σ rr (.sl 1 (b.rad.rows.map fun r=>[.sl 4 (r.map Cel.d)]))∧Rep ok σ uv (.sl 3 (b.unv.levels.map Lvl.d))∧Rep ok σ sv (.sl 1 (b.spr.rows.map fun r=>[.sl 4 (r.map Spb.d)])):=by
  obtain ⟨rj,p1,p2,p3,p4,p5,p6,p7,q1,q2,q3,q4,q5,u1,u2,u3,s1,s2,rfl,h0,pa,qa,ua,sa⟩:=bank_cells h
  rcases pa with _ | ⟨h1,_ | ⟨h2,_ | ⟨h3,_ | ⟨h4,_ | ⟨h5,_ | ⟨h6,_ | ⟨h7,_⟩⟩⟩⟩⟩⟩⟩
  rcases qa with _ | ⟨k1,_ | ⟨k2,_ | ⟨k3,_ | ⟨k4,_ | ⟨k5,_⟩⟩⟩⟩⟩
  rcases ua with _ | ⟨l1,_ | ⟨l2,_ | ⟨l3,_⟩⟩⟩
  rcases sa with _ | ⟨m1,_ | ⟨m2,_⟩⟩
  obtain rfl:=h1.of_flat
  obtain rfl:=h2.of_flat
  obtain rfl:=h3.of_flat
  obtain rfl:=h5.of_flat
  obtain rfl:=h6.of_flat
  obtain rfl:=k1.of_flat
  obtain rfl:=k2.of_flat
  obtain rfl:=k3.of_flat
  obtain rfl:=l1.of_flat
  obtain rfl:=l2.of_flat
  obtain rfl:=m1.of_flat
  exact ⟨_,_,_,_,_,_,_,rfl,h0,h4,h7,k4,k5,l3,m2⟩
end Core
end Go.Proofs.YtjfgdcegpgoobaaGreatDoor
namespace Go.Proofs.YtjfgdcegpgoobaaGreatDoor
open Go.Run Go
namespace Core
open Ty
set_option maxRecDepth 1000000
theorem ne31 {σ:St}:Xe (C M) 31 σ = .new (.cells [.int .u64 0,.int .i64 0,.int .i64 0,.slice none 0 (.ex 0),.int .u64 0,.int .i64 0,.slice none 0 (.ex 0)] 31 true) (fun a=>P a 0):=by kernel_rfl
theorem ne37 {σ:St}:Xe (C M) 37 σ = .new (.cells [.int .u64 0,.int .u64 0,.int .i64 0,.slice none 0 (.ex 0),.slice none 0 (.ex 0)] 37 true) (fun a=>P a 0):=by kernel_rfl
theorem ne40 {σ:St}:Xe (C M) 40 σ = .new (.cells [.int .u64 0,.int .i64 0,.slice none 0 (.ex 0)] 40 true) (fun a=>P a 0):=by kernel_rfl
theorem ne43 {σ:St}:Xe (C M) 43 σ = .new (.cells [.int .u64 0,.slice none 0 (.ex 0)] 43 true) (fun a=>P a 0):=by kernel_rfl
theorem shp0 {α:Type} {l:List (List α)} {r k:Nat} (h:Shp l r k) (hr:1≤r):∃ z,l[0]? = some z∧z.length = k:=by
  obtain ⟨z,hz⟩:=Q6 (l:=l) (j:=0) (by have:=h.1; omega)
  exact ⟨z,hz,h.2 z (List.mem_of_getElem? hz)⟩
theorem rowP_u (a b:Nat):Xa a b < 18446744073709551616:=rowP_lt a b
section
variable {n:Nat} {σ:St} {tab:Tab} {ok1 ok2:Nat→Prop}
theorem alike_run (ht:Fr tab) {ca cb:List CV} {x y:Bnk} (ha:RepL ok1 σ ca x.d) (hb:RepL ok2 σ cb y.d) (gx:GBnk x) (gy:GBnk y) (hc:x.cfg = y.cfg) :
    Yl (Ql (C M) tab (n + 10) 29 [.agg ca,.agg cb] σ) (fun v σ'=>v = B true∧Gr σ σ'):=by
  have ck:=cfg_ok gy.cfg
  obtain ⟨gx1,gx2,gx3,gx4⟩:=And.intro gx.els (And.intro gx.rad (And.intro gx.unv gx.spr))
  rw [hc] at gx1 gx2 gx3 gx4
  obtain ⟨gy1,gy2,gy3,gy4⟩:=And.intro gy.els (And.intro gy.rad (And.intro gy.unv gy.spr))
  generalize hcc:y.cfg = c at *
  obtain ⟨rj,bv,lv,fv,rr,uv,sv,rfl,_,rb,rl,rf,rq,ru,rs⟩:=Wb ha
  obtain ⟨rj',bv',lv',fv',rr',uv',sv',rfl,_,rb',rl',rf',rq',ru',rs'⟩:=Wb hb
  refine Q3 (ht _ rfl) Tryz.func29 (by kernel_rfl) ?_
  rw [F29_eq]
  unfold K29_0
  refine Yn fun σ1 b1 e1 a1 _=>Yn fun σ2 b2 e2 a2 _=>?_
  have e:=e1.trans e2
  replace a1:=a1.ext e2
  clear e1 e2
  -- elastic
  unfold K29_1
  refine y_pair (c1:=[.int .u64 x.els.seed,.int .i64 x.els.room,.int .i64 x.els.votes,bv,.int .u64 x.els.lseed,.int .i64 x.els.most,lv]) (c2:=[.int .u64 y.els.seed,.int .i64 y.els.room,.int .i64 y.els.votes,bv',.int .u64 y.els.lseed,.int .i64 y.els.most,lv'])
    (fun _=>fa45_4) (fun _=>fa45_4) (fun s e'=>Xt (a1.ext e').2 ag31 sz31 rfl) (fun s e'=>Xt (a2.ext e').2 ag31 sz31 rfl) rfl rfl (fun _=>ne31) sz31 sz31 rfl rfl (by decide) (by decide) (by decide) fun s3 d1 d2 e3 a3 a4=>?_
  have e':=e.trans e3
  have c1:=ck.bk
  have c2:=ck.lr
  have c3:=ck.lc
  have c4:=ck.en
  have c5:=ck.vo
  have hroom:=gy1.room
  have hvotes:=gy1.votes
  obtain ⟨_,s4,c6,rfl,e4⟩:=elastic_right (n:=n + 2) (σ:=s3) ht (ca:=[.int .u64 y.els.seed,.int .i64 y.els.room,.int .i64 y.els.votes,bv',.int .u64 y.els.lseed,.int .i64 y.els.most,lv'])
    (.cons (.flat rfl) (.cons (.flat rfl) (.cons (.flat rfl) (.cons (rb'.ext e') (.cons (.flat rfl) (.cons (.flat rfl) (.cons (rl'.ext e') .nil))))))) (by rw [gy1.seed]; exact rowP_u _ _) (by omega) (by omega) (by rw [gy1.bks]; omega) gy1.lseed gy1.most gy1.shp (by omega) (by omega) gy1.vals (by rw [gy1.room]; exact gy1.each)
  unfold K29_2
  refine X0 ?_
  refine Qj (Q7 a4.2 ag31 sz31 rfl) rfl ?_
  refine Vd rfl (c6) ?_
  refine Qf (Va) ?_
  replace e':=e'.trans e4
  have f1:=rb.ext e'
  have f2:=rb'.ext e'
  have f3:=rl.ext e'
  have f4:=rl'.ext e'
  have h1:=gx1.seed.trans gy1.seed.symm
  have h2:=gx1.room.trans gy1.room.symm
  have h3:=gx1.votes.trans gy1.votes.symm
  have h4:=gx1.bks.trans gy1.bks.symm
  have h5:=gx1.shp.1.trans gy1.shp.1.symm
  obtain ⟨m1,hm1,lm1⟩:=shp0 gx1.shp (by omega)
  obtain ⟨m2,hm2,lm2⟩:=shp0 gy1.shp (by omega)
  obtain ⟨b8,k8,c8,i8,a8,r8,_⟩:=Xg Jj sz25 f3 hm1
  obtain ⟨b9,k9,c9,i9,a9,r9,_⟩:=Xg Jj sz25 f4 hm2
  refine Qf (Qe (fa31_0)) ?_
  refine Qj (Qe (Qg (a3.ext e4).2 Zf rfl)) rfl ?_
  refine Qf (Qe (fa31_0)) ?_
  refine Qj (Qe (Qg (a4.ext e4).2 Zf rfl)) rfl ?_
  refine Qf (Qe (u_neqF (by omega))) ?_
  refine Qf (rfl) ?_
  refine Qf (Qe (fa31_1)) ?_
  refine Qj (Qe (Qg (a3.ext e4).2 ag3 rfl)) rfl ?_
  refine Qf (Qe (fa31_1)) ?_
  refine Qj (Qe (Qg (a4.ext e4).2 ag3 rfl)) rfl ?_
  refine Qf (Qe (Xd (by omega))) ?_
  refine Qf (rfl) ?_
  refine Qf (Qe (fa31_2)) ?_
  refine Qj (Qe (Qg (a3.ext e4).2 ag3 rfl)) rfl ?_
  refine Qf (Qe (fa31_2)) ?_
  refine Qj (Qe (Qg (a4.ext e4).2 ag3 rfl)) rfl ?_
  refine Qf (Qe (Xd (by omega))) ?_
  refine Qf (rfl) ?_
  refine Qf (Qe (fa31_3)) ?_
  refine Qj (Qe (Qg (a3.ext e4).2 ag26 rfl)) rfl ?_
  refine Qj (Qe (Qp un26 (f1))) rfl ?_
  refine Qf (Qe (fa31_3)) ?_
  refine Qj (Qe (Qg (a4.ext e4).2 ag26 rfl)) rfl ?_
  refine Qj (Qe (Qp un26 (f2))) rfl ?_
  refine Qf (Qe (Xd (by omega))) ?_
  refine Qf (rfl) ?_
  refine Qf (Qe (fa31_4)) ?_
  refine Qf (Qe (fa29_2)) ?_
  refine Qj (Qe (Qg (i:=6) (a3.ext e4).2 ag27 rfl)) rfl ?_
  refine Qj (Qe (Qp Jj (f3))) rfl ?_
  refine Qf (Qe (fa31_4)) ?_
  refine Qf (Qe (fa29_2)) ?_
  refine Qj (Qe (Qg (i:=6) (a4.ext e4).2 ag27 rfl)) rfl ?_
  refine Qj (Qe (Qp Jj (f4))) rfl ?_
  refine Qf (Qe (Xd (by omega))) ?_
  refine Qf (rfl) ?_
  refine Qf (Qe (fa31_4)) ?_
  refine Qf (Qe (fa29_2)) ?_
  refine Qj (Qe (Qg (i:=6) (a3.ext e4).2 ag27 rfl)) rfl ?_
  refine Qf (Qe (i8 _)) ?_
  refine Qj (Qe (Q8 a8.2 Ng rfl)) rfl ?_
  refine Qj (Qe (Qp Vj (r8))) rfl ?_
  refine Qf (Qe (fa31_4)) ?_
  refine Qf (Qe (fa29_2)) ?_
  refine Qj (Qe (Qg (i:=6) (a4.ext e4).2 ag27 rfl)) rfl ?_
  refine Qf (Qe (i9 _)) ?_
  refine Qj (Qe (Q8 a9.2 Ng rfl)) rfl ?_
  refine Qj (Qe (Qp Vj (r9))) rfl ?_
  refine Qf (Qe (Xd (by omega))) ?_
  refine Qf (rfl) ?_
  refine Qx (rfl) ?_
  replace e3:=e3.trans e4
  replace a1:=a1.ext e3
  replace a2:=a2.ext e3
  clear e e3 e4 c6 a3 a4 f1 f2 f3 f4 h1 h2 h3 h4 h5 m1 hm1 lm1 m2 hm2 lm2 i8 a8 r8 i9 a9 r9 rb rb' rl rl' c1 c2 c3 c4 c5 hroom hvotes gx1 gy1
  -- radar
  unfold K29_3
  refine y_pair (c1:=[.int .u64 x.rad.seed,.int .u64 x.rad.fseed,.int .i64 x.rad.hashes,fv,rr]) (c2:=[.int .u64 y.rad.seed,.int .u64 y.rad.fseed,.int .i64 y.rad.hashes,fv',rr'])
    (fun _=>fa45_5) (fun _=>fa45_5) (fun s e'=>Xt (a1.ext e').2 ag37 sz37 rfl) (fun s e'=>Xt (a2.ext e').2 ag37 sz37 rfl) rfl rfl (fun _=>ne37) sz37 sz37 rfl rfl (by decide) (by decide) (by decide) fun s5 d1 d2 e5 a3 a4=>?_
  have ee:=e'.trans e5
  have c1:=ck.fh
  have c2:=ck.fb
  have c3:=ck.rr
  have c4:=ck.rc
  have hh:=gy2.hashes
  obtain ⟨_,s6,c6,rfl,e6⟩:=radar_right (n:=n + 1) (σ:=s5) ht (ca:=[.int .u64 y.rad.seed,.int .u64 y.rad.fseed,.int .i64 y.rad.hashes,fv',rr'])
    (.cons (.flat rfl) (.cons (.flat rfl) (.cons (.flat rfl) (.cons (rf'.ext ee) (.cons (rq'.ext ee) .nil))))) gy2.fseed (by rw [gy2.seed]; exact rowP_u _ _) (by omega) (by rw [gy2.bits]; omega) gy2.shp (by omega) (by omega) gy2.vals
  unfold K29_4
  refine X0 ?_
  refine Qj (Q7 a4.2 ag37 sz37 rfl) rfl ?_
  refine Vd rfl (c6) ?_
  refine Qf (Va) ?_
  replace ee:=ee.trans e6
  have f1:=rf.ext ee
  have f2:=rf'.ext ee
  have f3:=rq.ext ee
  have f4:=rq'.ext ee
  have h1:=gx2.seed.trans gy2.seed.symm
  have h2:=gx2.hashes.trans gy2.hashes.symm
  have h4:=gx2.bits.trans gy2.bits.symm
  have h5:=gx2.shp.1.trans gy2.shp.1.symm
  obtain ⟨m1,hm1,lm1⟩:=shp0 gx2.shp (by omega)
  obtain ⟨m2,hm2,lm2⟩:=shp0 gy2.shp (by omega)
  obtain ⟨b8,k8,c8,i8,a8,r8,_⟩:=Xg un35 sz94 f3 hm1
  obtain ⟨b9,k9,c9,i9,a9,r9,_⟩:=Xg un35 sz94 f4 hm2
  refine Qf (Qe (fa37_0)) ?_
  refine Qj (Qe (Qg (a3.ext e6).2 Zf rfl)) rfl ?_
  refine Qf (Qe (fa37_0)) ?_
  refine Qj (Qe (Qg (a4.ext e6).2 Zf rfl)) rfl ?_
  refine Qf (Qe (u_neqF (by omega))) ?_
  refine Qf (rfl) ?_
  refine Qf (Qe (fa37_2)) ?_
  refine Qj (Qe (Qg (a3.ext e6).2 ag35 rfl)) rfl ?_
  refine Qj (Qe (Qp un35 (f3))) rfl ?_
  refine Qf (Qe (fa37_2)) ?_
  refine Qj (Qe (Qg (a4.ext e6).2 ag35 rfl)) rfl ?_
  refine Qj (Qe (Qp un35 (f4))) rfl ?_
  refine Qf (Qe (Xd (by omega))) ?_
  refine Qf (rfl) ?_
  refine Qf (Qe (fa37_2)) ?_
  refine Qj (Qe (Qg (a3.ext e6).2 ag35 rfl)) rfl ?_
  refine Qf (Qe (i8 _)) ?_
  refine Qj (Qe (Q8 a8.2 ag94 rfl)) rfl ?_
  refine Qj (Qe (Qp un94 (r8))) rfl ?_
  refine Qf (Qe (fa37_2)) ?_
  refine Qj (Qe (Qg (a4.ext e6).2 ag35 rfl)) rfl ?_
  refine Qf (Qe (i9 _)) ?_
  refine Qj (Qe (Q8 a9.2 ag94 rfl)) rfl ?_
  refine Qj (Qe (Qp un94 (r9))) rfl ?_
  refine Qf (Qe (Xd (by omega))) ?_
  refine Qf (rfl) ?_
  refine Qf (Qe (fa37_1)) ?_
  refine Qf (Qe (fa34_2)) ?_
  refine Qj (Qe (Qg (i:=3) (a3.ext e6).2 ag32 rfl)) rfl ?_
  refine Qj (Qe (Qp un32 (f1))) rfl ?_
  refine Qf (Qe (fa37_1)) ?_
  refine Qf (Qe (fa34_2)) ?_
  refine Qj (Qe (Qg (i:=3) (a4.ext e6).2 ag32 rfl)) rfl ?_
  refine Qj (Qe (Qp un32 (f2))) rfl ?_
  refine Qf (Qe (Xd (by omega))) ?_
  refine Qf (rfl) ?_
  refine Qf (Qe (fa37_1)) ?_
  refine Qf (Qe (fa34_1)) ?_
  refine Qj (Qe (Qg (i:=2) (a3.ext e6).2 ag3 rfl)) rfl ?_
  refine Qf (Qe (fa37_1)) ?_
  refine Qf (Qe (fa34_1)) ?_
  refine Qj (Qe (Qg (i:=2) (a4.ext e6).2 ag3 rfl)) rfl ?_
  refine Qf (Qe (Xd (by omega))) ?_
  refine Qf (rfl) ?_
  refine Qx (rfl) ?_
  replace e5:=e5.trans e6
  replace a1:=a1.ext e5
  replace a2:=a2.ext e5
  clear e' e5 e6 c6 a3 a4 f1 f2 f3 f4 h1 h2 h4 h5 m1 hm1 lm1 m2 hm2 lm2 i8 a8 r8 i9 a9 r9 rf rf' rq rq' c1 c2 c3 c4 hh gx2 gy2
  -- univ
  unfold K29_5
  refine y_pair (c1:=[.int .u64 x.unv.seed,.int .i64 x.unv.room,uv]) (c2:=[.int .u64 y.unv.seed,.int .i64 y.unv.room,uv'])
    (fun _=>fa45_6) (fun _=>fa45_6) (fun s e'=>Xt (a1.ext e').2 ag40 sz40 rfl) (fun s e'=>Xt (a2.ext e').2 ag40 sz40 rfl) rfl rfl (fun _=>ne40) sz40 sz40 rfl rfl (by decide) (by decide) (by decide) fun s7 d1 d2 e5 a3 a4=>?_
  have e':=ee.trans e5
  have c1:=ck.tp
  have c2:=ck.lv
  have c3:=ck.sr
  have c4:=ck.sc
  have odd:=odd_nat c3.1 ck.odd
  have hh:=gy3.room
  have hl:=gy3.len
  obtain ⟨_,s8,c6,rfl,e6⟩:=univ_right (n:=n) (σ:=s7) (r:=c.sr.toNat) (k:=c.sc.toNat) ht (x:=y.unv) (ca:=[.int .u64 y.unv.seed,.int .i64 y.unv.room,uv'])
    (.cons (.flat rfl) (.cons (.flat rfl) (.cons (ru'.ext e') .nil))) (by rw [gy3.seed]; exact rowP_u _ _) (by omega) (by rw [gy3.len]; omega) ⟨by omega,by omega,odd⟩ (by omega) fun j l hj=>by
      obtain ⟨g1,g2,g3,g4⟩:=gy3.each j l hj
      exact ⟨g1,g2,g3,g4⟩
  unfold K29_6
  refine Qb (Q7 a4.2 ag40 sz40 rfl) ?_
  refine Xs rfl (c6) ?_
  replace e':=e'.trans e6
  have f1:=ru.ext e'
  have f2:=ru'.ext e'
  have h1:=gx3.seed.trans gy3.seed.symm
  have h2:=gx3.room.trans gy3.room.symm
  have h4:=gx3.len.trans gy3.len.symm
  obtain ⟨z1,hz1⟩:=Q6 (l:=x.unv.levels) (j:=0) (by omega)
  obtain ⟨z2,hz2⟩:=Q6 (l:=y.unv.levels) (j:=0) (by omega)
  have g1:=gx3.each 0 z1 hz1
  have g2:=gy3.each 0 z2 hz2
  obtain ⟨b6,k6,c9,i6,a6,r6,_⟩:=Yq un38 sz103 f1 hz1
  obtain ⟨b7,k7,c10,i7,a7,r7,_⟩:=Yq un38 sz103 f2 hz2
  obtain ⟨v6,w6,rfl,p6,_⟩:=lvl_cells r6
  obtain ⟨v7,w7,rfl,p7,_⟩:=lvl_cells r7
  have h5:=g1.shp.1.trans g2.shp.1.symm
  obtain ⟨m1,hm1,lm1⟩:=shp0 g1.shp (by omega)
  obtain ⟨m2,hm2,lm2⟩:=shp0 g2.shp (by omega)
  obtain ⟨b8,k8,c8,i8,a8,r8,_⟩:=Xg Jj sz25 p6 hm1
  obtain ⟨b9,k9,c9,i9,a9,r9,_⟩:=Xg Jj sz25 p7 hm2
  refine Qb (Va) ?_
  refine Qb (Qe (fa40_0)) ?_
  refine Qb (Qe (Qg (a3.ext e6).2 Zf rfl)) ?_
  refine Qb (Qe (fa40_0)) ?_
  refine Qb (Qe (Qg (a4.ext e6).2 Zf rfl)) ?_
  refine Qb (Qe (u_neqF (by omega))) ?_
  refine Qb (rfl) ?_
  refine Qb (Qe (fa40_1)) ?_
  refine Qb (Qe (Qg (a3.ext e6).2 ag3 rfl)) ?_
  refine Qb (Qe (fa40_1)) ?_
  refine Qb (Qe (Qg (a4.ext e6).2 ag3 rfl)) ?_
  refine Qb (Qe (Xd (by omega))) ?_
  refine Qb (rfl) ?_
  refine Qb (Qe (fa40_2)) ?_
  refine Qb (Qe (Qg (a3.ext e6).2 ag38 rfl)) ?_
  refine Qb (Qe (Qp un38 (f1))) ?_
  refine Qb (Qe (fa40_2)) ?_
  refine Qb (Qe (Qg (a4.ext e6).2 ag38 rfl)) ?_
  refine Qb (Qe (Qp un38 (f2))) ?_
  refine Qb (Qe (Xd (by omega))) ?_
  refine Qb (rfl) ?_
  refine Qx (rfl) ?_
  unfold K29_7
  refine X0 ?_
  refine Qf (fa40_2) ?_
  refine Qj (Qg (a3.ext e6).2 ag38 rfl) rfl ?_
  refine Qf (i6 _) ?_
  refine Qf (fa103_0) ?_
  refine Qf (Ja) ?_
  refine Qj (Qg (i:=1) a6.2 ag27 rfl) rfl ?_
  refine Qf (fa40_2) ?_
  refine Qj (Qg (a4.ext e6).2 ag38 rfl) rfl ?_
  refine Qf (i7 _) ?_
  refine Qf (fa103_0) ?_
  refine Qf (Ja) ?_
  refine Qj (Qg (i:=1) a7.2 ag27 rfl) rfl ?_
  unfold K29_8
  refine X0 ?_
  refine Qj (Qp Jj (p6)) rfl ?_
  refine Qj (Qp Jj (p7)) rfl ?_
  refine Qf (Xd (by omega)) ?_
  refine Qf (Qe (rfl)) ?_
  refine Qf (Qe (i8 _)) ?_
  refine Qj (Qe (Q8 a8.2 Ng rfl)) rfl ?_
  refine Qj (Qe (Qp Vj (r8))) rfl ?_
  refine Qf (Qe (rfl)) ?_
  refine Qf (Qe (i9 _)) ?_
  refine Qj (Qe (Q8 a9.2 Ng rfl)) rfl ?_
  refine Qj (Qe (Qp Vj (r9))) rfl ?_
  refine Qf (Qe (Xd (by omega))) ?_
  refine Qf (rfl) ?_
  refine Qx (rfl) ?_
  replace e5:=e5.trans e6
  replace a1:=a1.ext e5
  replace a2:=a2.ext e5
  clear ee e5 e6 c6 a3 a4 f1 f2 h1 h2 h4 h5 m1 hm1 lm1 m2 hm2 lm2 i8 a8 r8 i9 a9 r9 ru ru' c1 c2 c3 c4 hh hl gx3 gy3 i6 i7 a6 a7 p6 p7
  -- spread
  unfold K29_9
  refine y_pair (c1:=[.int .u64 x.spr.seed,sv]) (c2:=[.int .u64 y.spr.seed,sv'])
    (fun _=>fa45_7) (fun _=>fa45_7) (fun s e'=>Xt (a1.ext e').2 ag43 sz43 rfl) (fun s e'=>Xt (a2.ext e').2 ag43 sz43 rfl) rfl rfl (fun _=>ne43) sz43 sz43 rfl rfl (by decide) (by decide) (by decide) fun s9 d1 d2 e5 a3 a4=>?_
  have ee:=e'.trans e5
  have c1:=ck.xr
  have c2:=ck.xc
  have c3:=ck.ml
  have c4:=ck.mb
  obtain ⟨_,s10,c6,rfl,e6⟩:=spread_right (n:=n + 2) (σ:=s9) (ml:=c.ml.toNat) (mb:=c.mb.toNat) ht (x:=y.spr) (ca:=[.int .u64 y.spr.seed,sv'])
    (.cons (.flat rfl) (.cons (rs'.ext ee) .nil)) (by rw [gy4.seed]; exact rowP_u _ _) gy4.shp (by omega) (by omega) (by omega) (by omega) fun r hr b hb=>by
      obtain ⟨g1,g2,g3,g4,_⟩:=gy4.vals r hr b hb
      exact ⟨g1,g2,g3,g4⟩
  refine X0 ?_
  refine Qj (Q7 a4.2 ag43 sz43 rfl) rfl ?_
  refine Vd rfl (c6) ?_
  refine Qf (Va) ?_
  replace ee:=ee.trans e6
  have f1:=rs.ext ee
  have f2:=rs'.ext ee
  have h1:=gx4.seed.trans gy4.seed.symm
  have h5:=gx4.shp.1.trans gy4.shp.1.symm
  obtain ⟨z1,hz1,l1⟩:=shp0 gx4.shp (by omega)
  obtain ⟨z2,hz2,l2⟩:=shp0 gy4.shp (by omega)
  obtain ⟨b6,k6,c9,i6,a6,r6,_⟩:=Xg un41 sz111 f1 hz1
  obtain ⟨b7,k7,c10,i7,a7,r7,_⟩:=Xg un41 sz111 f2 hz2
  obtain ⟨y1,hy1⟩:=Q6 (l:=z1) (j:=0) (by omega)
  obtain ⟨y2,hy2⟩:=Q6 (l:=z2) (j:=0) (by omega)
  have g1:=gx4.vals z1 (List.mem_of_getElem? hz1) y1 (List.mem_of_getElem? hy1)
  have g2:=gy4.vals z2 (List.mem_of_getElem? hz2) y2 (List.mem_of_getElem? hy2)
  obtain ⟨b12,k12,c12,i12,a12,r12,_⟩:=Yq un111 sz117 r6 hy1
  obtain ⟨b13,k13,c13,i13,a13,r13,_⟩:=Yq un111 sz117 r7 hy2
  obtain ⟨v12,rfl,p12⟩:=spb_cells r12
  obtain ⟨v13,rfl,p13⟩:=spb_cells r13
  have h6:=g1.shp.1.trans g2.shp.1.symm
  obtain ⟨m1,hm1,lm1⟩:=shp0 g1.shp (by omega)
  obtain ⟨m2,hm2,lm2⟩:=shp0 g2.shp (by omega)
  obtain ⟨b8,k8,c8,i8,a8,r8,_⟩:=Xg W9 sz32 p12 hm1
  obtain ⟨b9,k9,c9,i9,a9,r9,_⟩:=Xg W9 sz32 p13 hm2
  refine Qf (Qe (fa43_0)) ?_
  refine Qj (Qe (Qg (a3.ext e6).2 Zf rfl)) rfl ?_
  refine Qf (Qe (fa43_0)) ?_
  refine Qj (Qe (Qg (a4.ext e6).2 Zf rfl)) rfl ?_
  refine Qf (Qe (u_neqF (by omega))) ?_
  refine Qf (rfl) ?_
  refine Qf (Qe (Ws)) ?_
  refine Qj (Qe (Qg (a3.ext e6).2 ag41 rfl)) rfl ?_
  refine Qj (Qe (Qp un41 (f1))) rfl ?_
  refine Qf (Qe (Ws)) ?_
  refine Qj (Qe (Qg (a4.ext e6).2 ag41 rfl)) rfl ?_
  refine Qj (Qe (Qp un41 (f2))) rfl ?_
  refine Qf (Qe (Xd (by omega))) ?_
  refine Qf (rfl) ?_
  refine Qf (Qe (Ws)) ?_
  refine Qj (Qe (Qg (a3.ext e6).2 ag41 rfl)) rfl ?_
  refine Qf (Qe (i6 _)) ?_
  refine Qj (Qe (Q8 a6.2 ag111 rfl)) rfl ?_
  refine Qj (Qe (Qp un111 (r6))) rfl ?_
  refine Qf (Qe (Ws)) ?_
  refine Qj (Qe (Qg (a4.ext e6).2 ag41 rfl)) rfl ?_
  refine Qf (Qe (i7 _)) ?_
  refine Qj (Qe (Q8 a7.2 ag111 rfl)) rfl ?_
  refine Qj (Qe (Qp un111 (r7))) rfl ?_
  refine Qf (Qe (Xd (by omega))) ?_
  refine Qf (rfl) ?_
  refine Qx (rfl) ?_
  refine X0 ?_
  refine Qf (Ws) ?_
  refine Qj (Qg (a3.ext e6).2 ag41 rfl) rfl ?_
  refine Qf (i6 _) ?_
  refine Qj (Q8 a6.2 ag111 rfl) rfl ?_
  refine Qf (i12 _) ?_
  refine Qf (fa117_0) ?_
  refine Qf (Wv) ?_
  refine Qj (Qg (i:=1) a12.2 Wt rfl) rfl ?_
  refine Qf (Ws) ?_
  refine Qj (Qg (a4.ext e6).2 ag41 rfl) rfl ?_
  refine Qf (i7 _) ?_
  refine Qj (Q8 a7.2 ag111 rfl) rfl ?_
  refine Qf (i13 _) ?_
  refine Qf (fa117_0) ?_
  refine Qf (Wv) ?_
  refine Qj (Qg (i:=1) a13.2 Wt rfl) rfl ?_
  refine X0 ?_
  refine Qj (Qp W9 (p12)) rfl ?_
  refine Qj (Qp W9 (p13)) rfl ?_
  refine Qf (J6 (by omega)) ?_
  refine Qf (Qe (rfl)) ?_
  refine Qf (Qe (i8 _)) ?_
  refine Qj (Qe (Q8 a8.2 ag32 rfl)) rfl ?_
  refine Qj (Qe (Qp un32 (r8))) rfl ?_
  refine Qf (Qe (rfl)) ?_
  refine Qf (Qe (i9 _)) ?_
  refine Qj (Qe (Q8 a9.2 ag32 rfl)) rfl ?_
  refine Qj (Qe (Qp un32 (r9))) rfl ?_
  refine Qf (Qe (J6 (by omega))) ?_
  refine Qf (rfl) ?_
  exact Qs ⟨rfl,ee⟩
end
end Core
end Go.Proofs.YtjfgdcegpgoobaaGreatDoor
namespace Go.Proofs.YtjfgdcegpgoobaaGreatDoor
open Go.Run Go
namespace Core
open Ty
set_option maxRecDepth 1000000
theorem free_of {tab:Tab} (h:Fr tab):Free tab:=⟨h _ rfl,h _ rfl,h _ rfl,h _ rfl,h _ rfl,h _ rfl,h _ rfl,h _ rfl,h _ rfl,h _ rfl,h _ rfl,h _ rfl,h _ rfl,h _ rfl,h _ rfl,h _ rfl,h _ rfl,h _ rfl,h _ rfl⟩
theorem ne87 {σ:St}:Xe (C M) 87 σ = .new (.cells [.slice none 0 (.ex 0),.int .i64 0] 87 true) (fun a=>P a 0):=by kernel_rfl
section
variable {n:Nat} {σ:St} {tab:Tab} {ok ok1 ok2:Nat→Prop}
theorem cl28 (ht:Fr tab) {q:Int} (h:0≤q∧q≤M40):Ql (C M) tab (n + 2) 28 [I q] σ = some (B false,σ):=by
  refine Xf (ht _ rfl) Tryz.func28 (by kernel_rfl) ?_
  rw [F28_eq]
  refine Yl.eq ?_
  unfold K28_0
  refine Xs rfl (fits26 (n:=n) ht h) ?_
  refine Qb (Va) ?_
  exact Qs ⟨rfl,rfl⟩
theorem cl76 (ht:Fr tab) {ca:List CV} {x:Cel} (ha:RepL ok σ ca x.d) (h:GCel x):Yl (Ql (C M) tab (n + 1) 76 [.agg ca] σ) (fun v σ'=>v = B false∧Gr σ σ'):=by
  obtain rfl:=cel_cells ha
  have hf:=h.flows
  refine Q3 (ht _ rfl) Tryz.func76 (by kernel_rfl) ?_
  rw [F76_eq]
  unfold K76_0
  refine Yn fun σ1 b1 e1 a1 _=>?_
  refine Qb (fa97_1) ?_
  refine Qb (Qg a1.2 ag3 rfl) ?_
  refine Qb (Q4 (by omega)) ?_
  exact Qs ⟨rfl,e1⟩
theorem cl80 (ht:Fr tab) {ca:List CV} {x:Spb} (ha:RepL ok σ ca x.d) (h:x.source = [] ∨ x.source.length = 16):Yl (Ql (C M) tab (n + 1) 80 [.agg ca] σ) (fun v σ'=>v = B false∧Gr σ σ'):=by
  obtain ⟨rv,rfl,_⟩:=spb_cells ha
  refine Q3 (ht _ rfl) Tryz.func80 (by kernel_rfl) ?_
  rw [F80_eq]
  unfold K80_0
  refine Yn fun σ1 b1 e1 a1 _=>?_
  by_cases hs:x.source = []
  · refine Qb (fa117_1) ?_
    refine Qb (Qg a1.2 ag9 rfl) ?_
    refine Qb (s_neqF hs) ?_
    refine Qb (Vr) ?_
    refine Qb (Vr) ?_
    refine Qb (Vr) ?_
    refine Qb (Vr) ?_
    refine Qb (rfl) ?_
    exact Qs ⟨rfl,e1⟩
  · have h':=h.resolve_left hs
    refine Qb (fa117_1) ?_
    refine Qb (Qg a1.2 ag9 rfl) ?_
    refine Qb (s_neqT hs) ?_
    refine Qb (Qe (fa117_1)) ?_
    refine Qb (Qe (Qg a1.2 ag9 rfl)) ?_
    refine Qb (Qe (o_slen un9)) ?_
    refine Qb (Qe (Xd (by omega))) ?_
    refine Qb (rfl) ?_
    exact Qs ⟨rfl,e1⟩
theorem keyed_run (ht:Fr tab) {ca:List CV} {x:Bnk} (ha:RepL ok σ ca x.d) (g:GBnk x) :
    Yl (Ql (C M) tab (n + 4) 30 [.agg ca] σ) (fun v σ'=>v = B true∧Gr σ σ'):=by
  have ck:=cfg_ok g.cfg
  obtain ⟨g1,g2,g3,g4⟩:=And.intro g.els (And.intro g.rad (And.intro g.unv g.spr))
  obtain ⟨rj,bv,lv,fv,rr,uv,sv,rfl,_,rb,_,_,rq,ru,rs⟩:=Wb ha
  refine Q3 (ht _ rfl) Tryz.func30 (by kernel_rfl) ?_
  rw [F30_eq]
  unfold K30_0
  refine Yn fun σ1 b1 e1 a1 _=>?_
  replace rb:=rb.ext e1
  have q1:=ck.bk
  have q2:=ck.rr
  have q3:=ck.rc
  have q4:=ck.lv
  have q5:=ck.xr
  have q6:=ck.xc
  have l1:=g1.bks
  have l2:=g2.shp.1
  have l3:=g3.len
  have l4:=g4.shp.1
  unfold K30_1
  refine Qb (fa45_4) ?_
  refine Qb (fa31_3) ?_
  refine Qb (Qg (i:=24) a1.2 ag26 rfl) ?_
  refine Qb (Qp un26 (rb)) ?_
  unfold K30_21
  refine Yb (L:=fun f' j s=>L30_22 M (Ql (C M) tab (n + 3)) f' (P b1 0) (.one bv) (I (x.els.buckets.length:Nat)) (I (j:Nat)) s) (n:=x.els.buckets.length) (fun j s=>Gr σ1 s) (fun f' j s hj hi hk=>?_) (fun f' σ2 hi1=>?_) 0 M σ1 (by omega) (by unfold M; omega) (Gr.refl _)
  · rw [L30_22_succ]
    obtain ⟨y,hy⟩:=Q6 hj
    obtain ⟨b2,k2,c2,i2,a2,r2,_⟩:=Yq un26 sz87 (rb.ext hi) hy
    obtain ⟨ev,rfl,p2⟩:=bkt_cells r2
    have he:=(g1.each y (List.mem_of_getElem? hy)).ents
    unfold L30_22_b
    refine Qb (Xi (by omega)) ?_
    unfold K30_23
    refine Xc (rfl) ?_
    unfold K30_24
    refine Qb (i2 _) ?_
    refine Qb (Q7 a2.2 ag87 sz87 rfl) ?_
    refine y_cpy ne87 sz87 rfl rfl fun s2 b3 e2 a3 _=>?_
    refine Qb (fa87_0) ?_
    refine Qb (Qg a3.2 ag85 rfl) ?_
    refine V4 rfl (cf73 (n:=n + 1) (p:=fun _=>false) (caps:=[]) ht (p2.ext e2) (by rw [he]; decide) rfl fun z hz s c e r=>by rw [he] at hz; cases hz) fun v s3 ⟨hv,e3⟩=>?_
    rw [any_no] at hv
    subst hv
    refine Qx (rfl) ?_
    unfold K30_25
    refine Qb (Xy (by omega)) ?_
    exact hk _ ((hi.trans e2).trans e3)
  · rw [L30_22_succ]
    unfold L30_22_b
    refine Qb (Q4 (by omega)) ?_
    unfold K30_23
    refine Qx (rfl) ?_
    have e2:=e1.trans hi1
    replace rq:=rq.ext e2
    unfold Wk
    refine Qb (fa45_5) ?_
    refine Qb (fa37_2) ?_
    refine Qb (Qg (i:=32) (a1.ext hi1).2 ag35 rfl) ?_
    refine Qb (Qp un35 (rq)) ?_
    unfold K30_16
    refine Yb (L:=fun f' j s=>L30_17 M (Ql (C M) tab (n + 3)) f' (P b1 0) (.one rr) (I (x.rad.rows.length:Nat)) (I (j:Nat)) s) (n:=x.rad.rows.length) (fun j s=>Gr σ2 s) (fun f' j s hj hi hk=>?_) (fun f' s3 hi2=>?_) 0 M σ2 (by omega) (by unfold M; omega) (Gr.refl _)
    · rw [L30_17_succ]
      obtain ⟨y,hy⟩:=Q6 hj
      obtain ⟨b2,k2,c2,i2,a2,r2,_⟩:=Xg un35 sz94 (rq.ext hi) hy
      have hl:=g2.shp.2 y (List.mem_of_getElem? hy)
      have hv:=g2.vals y (List.mem_of_getElem? hy)
      unfold L30_17_b
      refine Qb (Xi (by omega)) ?_
      unfold K30_18
      refine Xc (rfl) ?_
      unfold K30_19
      refine Qb (i2 _) ?_
      refine Qb (Q8 a2.2 ag94 rfl) ?_
      refine V4 rfl (cf75 (n:=n + 1) (p:=fun _=>false) (caps:=[]) ht r2 (by omega) rfl fun z hz s c e r=>cl76 ht r (hv z hz)) fun v s3 ⟨hv,e3⟩=>?_
      rw [any_no] at hv
      subst hv
      refine Qx (rfl) ?_
      unfold K30_20
      refine Qb (Xy (by omega)) ?_
      exact hk _ (hi.trans e3)
    · rw [L30_17_succ]
      unfold L30_17_b
      refine Qb (Q4 (by omega)) ?_
      unfold K30_18
      refine Qx (rfl) ?_
      have e3:=e2.trans hi2
      replace ru:=ru.ext e3
      unfold Wj
      refine Qb (fa45_6) ?_
      refine Qb (fa40_2) ?_
      refine Qb (Qg (i:=35) ((a1.ext hi1).ext hi2).2 ag38 rfl) ?_
      refine Qb (Qp un38 (ru)) ?_
      unfold K30_11
      refine Yb (L:=fun f' j s=>L30_12 M (Ql (C M) tab (n + 3)) f' (P b1 0) (.one uv) (I (x.unv.levels.length:Nat)) (I (j:Nat)) s) (n:=x.unv.levels.length) (fun j s=>Gr s3 s) (fun f' j s hj hi hk=>?_) (fun f' s4 hi3=>?_) 0 M s3 (by omega) (by unfold M; omega) (Gr.refl _)
      · rw [L30_12_succ]
        obtain ⟨y,hy⟩:=Q6 hj
        obtain ⟨b2,k2,c2,i2,a2,r2,_⟩:=Yq un38 sz103 (ru.ext hi) hy
        obtain ⟨v1,v2,rfl,_,p2⟩:=lvl_cells r2
        have he:=(g3.each j y hy).top
        unfold L30_12_b
        refine Qb (Xi (by omega)) ?_
        unfold K30_13
        refine Xc (rfl) ?_
        unfold K30_14
        refine Qb (i2 _) ?_
        refine Qb (Q7 a2.2 ag103 sz103 rfl) ?_
        refine y_cpy ne103 sz103 rfl rfl fun s2 b3 e2 a3 _=>?_
        refine Qb (fa103_1) ?_
        refine Qb (Qg a3.2 ag101 rfl) ?_
        refine V4 rfl (cf77 (n:=n + 1) (p:=fun _=>false) (caps:=[]) ht (p2.ext e2) (by rw [he]; decide) rfl fun z hz s c e r=>by rw [he] at hz; cases hz) fun v s3 ⟨hv,e3⟩=>?_
        rw [any_no] at hv
        subst hv
        refine Qx (rfl) ?_
        unfold K30_15
        refine Qb (Xy (by omega)) ?_
        exact hk _ ((hi.trans e2).trans e3)
      · rw [L30_12_succ]
        unfold L30_12_b
        refine Qb (Q4 (by omega)) ?_
        unfold K30_13
        refine Qx (rfl) ?_
        have e4:=e3.trans hi3
        replace rs:=rs.ext e4
        unfold Wi
        refine Qb (fa45_7) ?_
        refine Qb (Ws) ?_
        refine Qb (Qg (i:=37) (((a1.ext hi1).ext hi2).ext hi3).2 ag41 rfl) ?_
        refine Qb (Qp un41 (rs)) ?_
        unfold K30_6
        refine Yb (L:=fun f' j s=>L30_7 M (Ql (C M) tab (n + 3)) f' (.one sv) (I (x.spr.rows.length:Nat)) (I (j:Nat)) s) (n:=x.spr.rows.length) (fun j s=>Gr s4 s) (fun f' j s hj hi hk=>?_) (fun f' s hi4=>?_) 0 M s4 (by omega) (by unfold M; omega) (Gr.refl _)
        · rw [L30_7_succ]
          obtain ⟨y,hy⟩:=Q6 hj
          obtain ⟨b2,k2,c2,i2,a2,r2,_⟩:=Xg un41 sz111 (rs.ext hi) hy
          have hl:=g4.shp.2 y (List.mem_of_getElem? hy)
          have hv:=g4.vals y (List.mem_of_getElem? hy)
          unfold L30_7_b
          refine Qb (Xi (by omega)) ?_
          unfold K30_8
          refine Xc (rfl) ?_
          unfold K30_9
          refine Qb (i2 _) ?_
          refine Qb (Q8 a2.2 ag111 rfl) ?_
          refine V4 rfl (cf79 (n:=n + 1) (p:=fun _=>false) (caps:=[]) ht r2 (by omega) rfl fun z hz s c e r=>cl80 ht r (hv z hz).src) fun v s3 ⟨hv,e3⟩=>?_
          rw [any_no] at hv
          subst hv
          refine Qx (rfl) ?_
          unfold K30_10
          refine Qb (Xy (by omega)) ?_
          exact hk _ (hi.trans e3)
        · rw [L30_7_succ]
          unfold L30_7_b
          refine Qb (Q4 (by omega)) ?_
          unfold K30_8
          refine Qx (rfl) ?_
          unfold Wh
          exact Qs ⟨rfl,e4.trans hi4⟩
theorem bank_right (ht:Fr tab) {ca:List CV} {x:Bnk} (ha:RepL ok σ ca x.d) (g:GBnk x) :
    Yl (Ql (C M) tab (n + 11) 9 [.agg ca] σ) (fun v σ'=>v = B true∧Gr σ σ'):=by
  obtain ⟨rj,bv,lv,fv,rr,uv,sv,hca,rj1,_⟩:=Wb ha
  subst hca
  refine Q3 (ht _ rfl) Tryz.func9 (by kernel_rfl) ?_
  rw [F9_eq]
  unfold K9_0
  refine Yn fun σ1 b1 e1 a1 _=>?_
  unfold K9_1
  refine Qb (fa45_0) ?_
  refine Qb (Xt a1.2 ag24 sz24 rfl) ?_
  refine V4 rfl (bank_new (n:=n + 5) (c:=x.cfg) (free_of ht) g.seed) fun v s2 ⟨e2,hv⟩=>?_
  rcases hv with ⟨hb,_⟩ | ⟨_,cs,rfl,hn⟩
  · rw [g.cfg] at hb; cases hb
  have gn:=newB_good g.cfg g.seed
  obtain ⟨rj',bv',lv',fv',rr',uv',sv',hcs,_⟩:=Wb hn
  subst hcs
  refine Qb (rfl) ?_
  refine Qb (rfl) ?_
  refine y_cpy new69 sz45 rfl rfl fun s3 b3 e3 a3 _=>?_
  have e23:=e2.trans e3
  replace a1:=a1.ext e23
  have e:=e1.trans e23
  have hrj:=g.rejs
  replace rj1:=rj1.ext e
  refine Qb (Xd (by omega)) ?_
  refine Qb (Qe (fa45_1)) ?_
  refine Qb (Qe (Qg a1.2 ag3 rfl)) ?_
  refine V8 rfl rfl (fits26 (n:=n + 9) ht g.packets) ?_
  refine Qb (Qe (Va)) ?_
  refine Qb (rfl) ?_
  refine Qb (Qe (fa45_2)) ?_
  refine Qb (Qe (Qg a1.2 ag3 rfl)) ?_
  refine V8 rfl rfl (fits26 (n:=n + 9) ht g.bytes) ?_
  refine Qb (Qe (Va)) ?_
  refine Qb (rfl) ?_
  refine Qb (Qe (fa45_3)) ?_
  refine Qb (Qe (Qg a1.2 Ng rfl)) ?_
  refine Qb (Qe (Qp Vj (rj1))) ?_
  refine Qb (Qe (Xd (by omega))) ?_
  refine Qb (rfl) ?_
  refine Qb (Qe (fa45_3)) ?_
  refine Qb (Qe (Qg a1.2 Ng rfl)) ?_
  refine y_gcyl rfl rfl (cf27 (n:=n + 8) (p:=fun _=>false) (caps:=[]) ht rj1 (by omega) rfl fun z hz s c e r=>?_) fun v s4 ⟨hv,e4⟩=>?_
  · obtain rfl:=r.of_flat
    exact y_of (cl28 (n:=n + 6) ht (g.rej z hz)) ⟨rfl,Gr.refl _⟩
  rw [any_no] at hv
  subst hv
  refine Qb (rfl) ?_
  refine Qx (rfl) ?_
  have e34:=e3.trans e4
  obtain ⟨_,s5,c5,rfl,e5⟩:=alike_run (n:=n) ht (hn.ext e34) (ha.ext (e.trans e4)) gn g rfl
  obtain ⟨_,s6,c6,rfl,e6⟩:=keyed_run (n:=n + 6) ht (ha.ext ((e.trans e4).trans e5)) g
  refine Qb (Q7 (a3.ext e4).2 ag45 sz45 rfl) ?_
  refine Qb (Q7 (a1.ext e4).2 ag45 sz45 rfl) ?_
  refine Xs rfl (c5) ?_
  refine Qb (Qe (Q7 ((a1.ext e4).ext e5).2 ag45 sz45 rfl)) ?_
  refine V8 rfl rfl (c6) ?_
  refine Qb (rfl) ?_
  exact Qs ⟨rfl,((e.trans e4).trans e5).trans e6⟩
end
end Core
end Go.Proofs.YtjfgdcegpgoobaaGreatDoor
