/- Rows of noughts: least.New. -/
import Derived.Test.YtjfgdcegpgoobaaGreatDoorFld
set_option linter.unusedVariables false
namespace Go.Proofs.YtjfgdcegpgoobaaGreatDoor
open Go.Run Go
namespace Core
open Ty
set_option maxRecDepth 1000000
def V1 (ll:List (List Int)):DV:=.sl 1 (ll.map fun r=>[Ww r])
theorem Vs {t:TypeId} {a:AV} {b v:AV} {σ:St} {Q:AV→St→Prop} (h:loadA (C M) t a σ = some v) (hq:Q (.tup [v,b]) σ):Yl (Qo (C M) [(some t,a),(none,b)] σ) Q:=by
  refine y_ret (vs:=[v,b]) ?_ hq
  show (match loadA (C M) t a σ,(some [b]:Option (List AV)) with | some v,some vs=>some (v :: vs) | _,_=>none) = _
  rw [h]
theorem Y7 {t:TypeId} {i n:Nat} {b:Blk} {l r:List CV} {σ:St} (h:σ.get i = some b) (hb:Blk.rd (some b) = some l) (ha:Go.Run.isAgg (C M) t = some true) (hs:size (C M) t = some n) (hr:Yo n (Vm 0 l) = some r):loadA (C M) t (P i 0) σ = some (.agg r):=by
  unfold loadA
  simp only [h,hb]
  exact X2 ha hs hr
theorem row3 {k:Nat} (h:1≤k):Na (C M) 3 1 k = some (List.replicate k (.int .i64 0)):=by
  have z:zeroCells (C M) 3 = some [.int .i64 0]:=by kernel_rfl
  unfold Na
  have hb:Nat.beq k 0 = false:=by
    cases hb:Nat.beq k 0 with
    | false=>rfl
    | true=>have:=Nat.eq_of_beq_eq_true hb; omega
  rw [hb,z]
  show (bif Nat.beq 1 1 then some (Xj k [CV.int .i64 0]) else none) = _
  rw [repN_one]; rfl
theorem mks3 {σ:St} {k:Nat} (h:1≤k) (h2:k≤100000):mksO (C M) 25 (I (k:Nat)) (I (k:Nat)) σ = .new (.cells (List.replicate k (.int .i64 0)) 3 true) (fun i=>.one (.slice (some (i,0)) k (.to 1))):=by
  obtain ⟨inf,hi,he⟩:=Option.map_eq_some_iff.mp (in3 (m:=M))
  obtain ⟨he1,he2⟩:=Prod.mk.inj he
  have he1:inf.size = 1:=he1
  have he2:inf.bytes = 8:=he2
  have:=o_mks (cx:=C M) (σ:=σ) (len:=k) (cp:=k) Vj hi (by rw [he1]; exact row3 h) (by rw [he1,he2,Nat.ble_eq_true_of_le (by omega),Nat.ble_eq_true_of_le (by omega),Nat.ble_eq_true_of_le (by omega)]; rfl)
  rw [he1] at this
  exact this
theorem rep_row {ok:Nat→Prop} {σ:St} {b k:Nat} {cap:Cap} (ho:ok b) (hb:b < σ.next) (hg:σ.get b = some (.cells (List.replicate k (.int .i64 0)) 3 true)):Rep ok σ (.slice (some (b,0)) k cap) (Ww (List.replicate k 0)):=by
  have hlen:((List.replicate k (0:Int)).map fun n=>[dI n]).length = k:=by simp
  have:=Rep.mk (sz:=1) (cap:=cap) (o:=0) (es:=(List.replicate k (0:Int)).map fun n=>[dI n]) ho hb hg rfl (fun i e he=>by
    rw [List.getElem?_map] at he
    cases h:(List.replicate k (0:Int))[i]? with
    | none=>rw [h] at he; cases he
    | some x=>rw [h] at he; cases he; rfl) (fun i e he=>by
    rw [List.getElem?_map] at he
    cases h:(List.replicate k (0:Int))[i]? with
    | none=>rw [h] at he; cases he
    | some x=>
      rw [h] at he
      cases he
      have hi:=(List.getElem?_eq_some_iff.mp h).1
      have hx:x = 0:=by have:=List.mem_of_getElem? h; exact (List.mem_replicate.mp this).2
      subst hx
      simp only [List.length_replicate] at hi
      refine ⟨[.int .i64 0],?_,.cons (.flat rfl) .nil⟩
      rw [Y9,Vb _ _ (by simp; omega),Nat.zero_add,Nat.mul_one,List.drop_replicate]
      obtain ⟨m,hm⟩:∃ m,k - i = m + 1:=⟨k - i - 1,by omega⟩
      rw [hm]; rfl)
  rw [hlen] at this
  exact this
def W6 (rows cols most:Int):Bool:=((((decide (rows < 1) || decide (7 < rows)) || decide (cols < 1)) || decide (256 < cols)) || decide (most < 1)) || decide (1099511627776 < most)
theorem bsl51 {σ:St} {x k:Nat} {cap:Cap}:Vi (C M) 27 1 [(0,.one (.slice (some (x,0)) k cap))] σ = .new (.cells [.slice (some (x,0)) k cap] 25 true) (fun i=>.one (.slice (some (i,0)) 1 (.to (0 + 1)))):=by kernel_rfl
theorem new53 {σ:St}:Xe (C M) 29 σ = .new (.cells [.int .u64 0,.int .i64 0,.slice none 0 (.ex 0)] 29 true) (fun a=>P a 0):=by kernel_rfl
theorem bld53 {σ:St} {u m:Int}:Xp (C M) 29 [(0,Iu u),(1,I m)] σ = .val (.agg [.int .u64 u,.int .i64 m,.slice none 0 (.ex 0)]):=by kernel_rfl
theorem bld53z {σ:St}:Xp (C M) 29 [] σ = .val (.agg [.int .u64 0,.int .i64 0,.slice none 0 (.ex 0)]):=by kernel_rfl
structure RowsAt (σ:St) (a8 a10:Nat) (u m:Int) (k j:Nat) (cv:CV):Prop where
  lt8:a8 < a10
  lt10:a10 < σ.next
  g8:∃ l,σ.get a8 = some (.cells l 29 true)∧l.length = 3
  g10:σ.get a10 = some (.cells [.int .u64 u,.int .i64 m,cv] 29 true)
  own:∃ l,Own (a10 + 1) σ 0 25 cv l∧l.length = j∧RepL (fun i=>¬ X5 cv i∧a10 < i) σ l (List.replicate j (Ww (List.replicate k 0)))
theorem flat_rep {α:Type} (x:α):∀ r:Nat,(List.replicate r [x]).flatten = List.replicate r x
  | 0=>rfl
  | r + 1=>by rw [List.replicate_succ,List.flatten_cons,flat_rep x r]; rfl
theorem least_it {fuel a8 a10 k j:Nat} {rows:Int} {σ:St} {u m:Int} {cv:CV} {call:Qd} {Q:AV→St→Prop} (h:RowsAt σ a8 a10 u m k j cv) (h1:1≤k) (h2:k≤256) (hj:j≤1000) (hr:(j:Int) < rows)
    (hk:∀ σ' cv',RowsAt σ' a8 a10 u m k (j + 1) cv'→(∀ i,i < a8→σ'.get i = σ.get i)→Yl (L35_6 M call fuel (I (k:Nat)) (P a8 0) (P a10 0) (I rows) (I ((j + 1:Nat):Int)) σ') Q) :
    Yl (L35_6 M call (fuel + 1) (I (k:Nat)) (P a8 0) (P a10 0) (I rows) (I (j:Nat)) σ) Q:=by
  obtain ⟨l8,l10,⟨c8,g8,g8'⟩,g10,l,hown,hl,hrep⟩:=h
  rw [L35_6_succ]
  unfold L35_6_b
  refine Qb (V3) ?_
  unfold K35_7
  refine Xc (decide_eq_true hr) ?_
  unfold K35_8
  refine y_at ?_
  refine X0 ?_
  have hnot:∀ i,i < a10 + 1→¬ X5 cv i:=by
    rintro i hi ⟨n,c,rfl⟩
    rcases hown with ⟨h,_⟩ | ⟨k',n',h,hk',_⟩
    · cases h
    · cases h; omega
  have atlt:∀ i,X5 cv i→i < σ.next:=by
    rintro i ⟨n,c,rfl⟩
    rcases hown with ⟨h,_⟩ | ⟨k',n',h,_,hk',_⟩
    · cases h
    · cases h; exact hk'
  have G10:(σ.gap 8).get a10 = some (.cells [.int .u64 u,.int .i64 m,cv] 29 true):=g10
  have isl:∃ p n c,cv = .slice p n c:=by
    rcases hown with ⟨h,_⟩ | ⟨k',n',h,_⟩
    · exact ⟨_,_,_,h⟩
    · exact ⟨_,_,_,h⟩
  have hokv:okV (.one cv) = true:=rfl
  refine Qf (fa29_2) ?_
  refine Qj (Xq G10 rfl (Qq ag27 rfl)) hokv ?_
  refine Nf (mks3 h1 (by omega)) ?_
  refine Nf (bsl51) ?_
  generalize hσ2:((σ.gap 8).lay (Nat.add σ.next 3) (.cells (List.replicate k (.int .i64 0)) 3 true)).lay (Nat.add σ.next 4) (.cells [.slice (some (Nat.add σ.next 3,0)) k (.to 1)] 25 true) = σ2
  have n2:σ2.next = σ.next + 8:=by rw [← hσ2]; rfl
  have old:∀ i,i < σ.next→σ2.get i = σ.get i:=fun i hi=>by
    rw [← hσ2,St.get_lay,if_neg (by simp only [Nat.add_eq]; omega),St.get_lay,if_neg (by simp only [Nat.add_eq]; omega)]; rfl
  have r2:σ2.get (Nat.add σ.next 3) = some (.cells (List.replicate k (.int .i64 0)) 3 true):=by
    rw [← hσ2,St.get_lay,if_neg (by simp only [Nat.add_eq]; omega),St.get_lay,if_pos rfl]
  have e2:σ2.get (Nat.add σ.next 4) = some (.cells [.slice (some (Nat.add σ.next 3,0)) k (.to 1)] 25 true):=by rw [← hσ2,St.get_lay,if_pos rfl]
  have own2:Own (a10 + 1) σ2 0 25 cv l:=hown.to (by omega) fun i hi=>old i (atlt i hi)
  obtain ⟨cv',σ3,p1,p2,p3,p4,p5⟩:=Wr (t:=27) (cx:=C M) Jj in25 (by kernel_rfl) (by kernel_rfl) own2 (by omega) e2 rfl rfl (by omega) (by decide)
  have g10':σ3.get a10 = some (.cells [.int .u64 u,.int .i64 m,cv] 29 true):=by rw [p4 a10 (by omega) (hnot a10 (by omega)),old a10 l10]; exact g10
  refine X7 (p1) ?_
  refine Qf (fa29_2) ?_
  refine X7 (X1 g10' rfl sz27 rfl rfl) ?_
  unfold K35_9
  refine Qb (o_add) ?_
  rw [Xw (by omega) (by omega)]
  have np:∀ i,i < σ2.next→¬ X5 cv' i:=fun i hi hat=>by have:=p5 i hat; omega
  refine hk _ cv' ⟨l8,by rw [St.next_put]; omega,⟨c8,by rw [St.get_put,if_neg (by omega),p4 a8 (by omega) (hnot a8 (by omega)),old a8 (by omega)]; exact g8,g8'⟩,by rw [St.get_put,if_pos rfl],_,p2.to (by rw [St.next_put]; omega) (fun i hi=>by rw [St.get_put,if_neg (fun e=>np i (by omega) hi)]),by rw [List.length_append,hl]; rfl,?_⟩ ?_
  · rw [List.replicate_succ']
    refine RepL.append ?_ (.cons ?_ .nil)
    · refine hrep.to fun i hi hlt=>⟨?_,by rw [St.next_put]; omega,np i (by omega),hi.2⟩
      rw [St.get_put,if_neg (by omega),p4 i (by omega) hi.1,old i hlt]
    · refine rep_row ⟨np _ (by simp only [Nat.add_eq]; omega),by simp only [Nat.add_eq]; omega⟩ (by rw [St.next_put]; simp only [Nat.add_eq]; omega) ?_
      rw [St.get_put,if_neg (by simp only [Nat.add_eq]; omega),p4 _ (by simp only [Nat.add_eq]; omega) (fun hat=>by have:=atlt _ hat; simp only [Nat.add_eq] at this; omega)]
      exact r2
  · intro i hi
    rw [St.get_put,if_neg (by omega),p4 i (by omega) (hnot i (by omega)),old i (by omega)]
theorem least_loop {fuel a8 a10 k:Nat} {rows:Nat} {u m:Int} {call:Qd} {Q:AV→St→Prop} (h1:1≤k) (h2:k≤256) (hrows:rows≤1000):∀ (d j:Nat) (fuel:Nat) (σ:St) (cv:CV),j + d = rows→d < fuel→RowsAt σ a8 a10 u m k j cv →
    (∀ σ' cv',RowsAt σ' a8 a10 u m k rows cv'→(∀ i,i < a8→σ'.get i = σ.get i)→Yl (Jk M call (P a8 0) (P a10 0) σ') Q)→Yl (L35_6 M call fuel (I (k:Nat)) (P a8 0) (P a10 0) (I (rows:Nat)) (I (j:Nat)) σ) Q:=by
  intro d
  induction d with
  | zero=>
    intro j fuel σ cv hj hf h hk
    obtain ⟨f,rfl⟩:∃ f,fuel = f + 1:=⟨fuel - 1,by omega⟩
    have:j = rows:=by omega
    subst this
    rw [L35_6_succ]
    unfold L35_6_b
    refine Qb (V3) ?_
    unfold K35_7
    refine Qx (decide_eq_false (by omega)) ?_
    exact hk σ cv h fun _ _=>rfl
  | succ d ih=>
    intro j fuel σ cv hj hf h hk
    obtain ⟨f,rfl⟩:∃ f,fuel = f + 1:=⟨fuel - 1,by omega⟩
    refine least_it h h1 h2 (by omega) (by omega) fun σ' cv' h' hg=>?_
    exact ih (j + 1) f σ' cv' (by omega) (by omega) h' fun σ2 cv2 h2' hg2=>hk σ2 cv2 h2' fun i hi=>(hg2 i hi).trans (hg i hi)
theorem least_new {n:Nat} {σ:St} {tab:Tab} {u rows cols most:Int} (ht:tab 35 = none) :
    Yl (Ql (C M) tab (n + 1) 35 [Iu u,I rows,I cols,I most] σ) (fun v σ'=>Gr σ σ'∧((W6 rows cols most = true∧v = .tup [.agg [.int .u64 0,.int .i64 0,.slice none 0 (.ex 0)],I 1]) ∨
      (W6 rows cols most = false∧∃ cv,v = .tup [.agg [.int .u64 u,.int .i64 most,cv],I 0]∧Rep (fun i=>σ.next≤i) σ' cv (V1 (List.replicate rows.toNat (List.replicate cols.toNat 0)))))):=by
  refine Q3 ht Tryz.func35 (by kernel_rfl) ?_
  rw [F35_eq]
  unfold K35_0
  refine Ye (new53) ?_
  generalize hσ1:σ.push (.cells [.int .u64 0,.int .i64 0,.slice none 0 (.ex 0)] 29 true) = σ1
  have n1:σ1.next = σ.next + 1:=by rw [← hσ1]; rfl
  have e1:Gr σ σ1:=by rw [← hσ1]; exact Gr.push _ _
  have g1:σ1.get σ.next = some (.cells [.int .u64 0,.int .i64 0,.slice none 0 (.ex 0)] 29 true):=by rw [← hσ1,St.get_push,if_pos rfl]
  unfold K35_1
  refine Qb (V3) ?_
  refine y_org (y_orl (y_org (y_orl (y_org ?_))))
  refine y_if (fun hb=>?_) (fun hb=>?_)
  · have hb:W6 rows cols most = true:=hb
    refine Qb (bld53z) ?_
    refine Yj (X1 g1 rfl sz29 rfl rfl) ?_
    refine Vs (Y7 (by rw [St.get_put,if_pos rfl]) rfl ag29 sz29 rfl) ⟨e1.put _ (Nat.le_refl _),.inl ⟨hb,rfl⟩⟩
  · have hb:W6 rows cols most = false:=hb
    have hb':=hb
    unfold W6 at hb'
    simp only [Bool.or_eq_false_iff,decide_eq_false_iff_not] at hb'
    obtain ⟨⟨⟨⟨⟨b1,b2⟩,b3⟩,b4⟩,b5⟩,b6⟩:=hb'
    obtain ⟨r,rfl⟩:∃ r:Nat,rows = (r:Int):=⟨rows.toNat,by omega⟩
    obtain ⟨k,rfl⟩:∃ k:Nat,cols = (k:Int):=⟨cols.toNat,by omega⟩
    unfold K35_2
    refine Qb (bld53) ?_
    refine Ye (new53) ?_
    refine Yj (X1 (by rw [St.get_push,if_pos rfl]) rfl sz29 rfl rfl) ?_
    generalize hσ2:(σ1.push (.cells [.int .u64 0,.int .i64 0,.slice none 0 (.ex 0)] 29 true)).put σ1.next (.cells [.int .u64 u,.int .i64 most,.slice none 0 (.ex 0)] 29 true) = σ2
    have n2:σ2.next = σ1.next + 1:=by rw [← hσ2]; rfl
    have e2:Gr σ1 σ2:=by rw [← hσ2]; exact (Gr.push _ _).put _ (Nat.le_refl _)
    have hR:RowsAt σ2 σ.next σ1.next u most k 0 (.slice none 0 (.ex 0)):=⟨by omega,by omega,⟨_,(e2.2 _ (by omega)).trans g1,rfl⟩,by rw [← hσ2,St.get_put,if_pos rfl],[],Own.nil,rfl,.nil⟩
    unfold K35_3 K35_5
    refine least_loop (fuel:=0) (rows:=r) (by omega) (by omega) (by omega) r 0 M σ2 _ (by omega) (by unfold M; omega) hR fun σ3 cv h3 hg3=>?_
    obtain ⟨l8,l10,⟨c8,g8,g8'⟩,g10,l,hown,hl,hrep⟩:=h3
    unfold Jk
    refine Qb (Xq g10 rfl (X2 ag29 sz29 rfl)) ?_
    obtain ⟨x1,x2,x3,rfl⟩:∃ x1 x2 x3,c8 = [x1,x2,x3]:=by
      match c8,g8' with
      | [a,b,c],_=>exact ⟨a,b,c,rfl⟩
    refine Yj (X1 g8 rfl sz29 rfl rfl) ?_
    have hnot:∀ i,i < σ1.next + 1→¬ X5 cv i:=by
      rintro i hi ⟨n,c,rfl⟩
      rcases hown with ⟨h,_⟩ | ⟨k',n',h,hk',_⟩
      · cases h
      · cases h; omega
    refine Vs (Y7 (by rw [St.get_put,if_pos rfl]) rfl ag29 sz29 rfl) ⟨⟨by rw [St.next_put]; omega,fun i hi=>by rw [St.get_put,if_neg (by omega),hg3 i hi,e2.2 i (by omega),e1.2 i hi]⟩,.inr ⟨hb,cv,rfl,?_⟩⟩
    have hown':Own (σ1.next + 1) (σ3.put σ.next (.cells [.int .u64 u,.int .i64 most,cv] 29 true)) 0 25 cv l:=hown.to (by rw [St.next_put]; omega) fun i hi=>by rw [St.get_put,if_neg (fun e=>hnot i (by omega) hi)]
    have hrep':RepL (fun i=>σ.next≤i) (σ3.put σ.next (.cells [.int .u64 u,.int .i64 most,cv] 29 true)) l (List.replicate r (Ww (List.replicate k 0))):=
      hrep.to fun i hi hlt=>⟨by rw [St.get_put,if_neg (by have:=hi.2; omega)],by rw [St.next_put]; exact hlt,by have:=hi.2; omega⟩
    have key:(List.replicate r (List.replicate k (0:Int))).map (fun r=>[Ww r]) = List.replicate r [Ww (List.replicate k 0)]:=by rw [List.map_replicate]
    show Rep _ _ cv (.sl 1 ((List.replicate r (List.replicate k (0:Int))).map fun r=>[Ww r]))
    rw [key]
    refine hown'.rep (fun i hat=>Nat.le_of_not_lt fun hlt=>hnot i (by omega) hat) (fun x hx=>by rw [(List.mem_replicate.mp hx).2]; rfl) ?_
    rw [flat_rep]
    exact hrep'
end Core
end Go.Proofs.YtjfgdcegpgoobaaGreatDoor
namespace Go.Proofs.YtjfgdcegpgoobaaGreatDoor
open Go.Run Go
namespace Core
open Ty
set_option maxRecDepth 1000000
def Jp (ll:List (List Bool)):DV:=.sl 1 (ll.map fun r=>[Zk r])
theorem row4 {k:Nat} (h:1≤k):Na (C M) 4 1 k = some (List.replicate k (.bool false)):=by
  have z:zeroCells (C M) 4 = some [.bool false]:=by kernel_rfl
  unfold Na
  have hb:Nat.beq k 0 = false:=by
    cases hb:Nat.beq k 0 with
    | false=>rfl
    | true=>have:=Nat.eq_of_beq_eq_true hb; omega
  rw [hb,z]
  show (bif Nat.beq 1 1 then some (Xj k [CV.bool false]) else none) = _
  rw [repN_one]; rfl
theorem mks4 {σ:St} {k:Nat} (h:1≤k) (h2:k≤100000):mksO (C M) 32 (I (k:Nat)) (I (k:Nat)) σ = .new (.cells (List.replicate k (.bool false)) 4 true) (fun i=>.one (.slice (some (i,0)) k (.to 1))):=by
  obtain ⟨inf,hi,he⟩:=Option.map_eq_some_iff.mp (in4 (m:=M))
  obtain ⟨he1,he2⟩:=Prod.mk.inj he
  have he1:inf.size = 1:=he1
  have he2:inf.bytes = 1:=he2
  have:=o_mks (cx:=C M) (σ:=σ) (len:=k) (cp:=k) un32 hi (by rw [he1]; exact row4 h) (by rw [he1,he2,Nat.ble_eq_true_of_le (by omega),Nat.ble_eq_true_of_le (by omega),Nat.ble_eq_true_of_le (by omega)]; rfl)
  rw [he1] at this
  exact this
theorem rep_row4 {ok:Nat→Prop} {σ:St} {b k:Nat} {cap:Cap} (ho:ok b) (hb:b < σ.next) (hg:σ.get b = some (.cells (List.replicate k (.bool false)) 4 true)):Rep ok σ (.slice (some (b,0)) k cap) (Zk (List.replicate k false)):=by
  have hlen:((List.replicate k false).map fun n=>[dB n]).length = k:=by simp
  have:=Rep.mk (sz:=1) (cap:=cap) (o:=0) (es:=(List.replicate k false).map fun n=>[dB n]) ho hb hg rfl (fun i e he=>by
    rw [List.getElem?_map] at he
    cases h:(List.replicate k false)[i]? with
    | none=>rw [h] at he; cases he
    | some x=>rw [h] at he; cases he; rfl) (fun i e he=>by
    rw [List.getElem?_map] at he
    cases h:(List.replicate k false)[i]? with
    | none=>rw [h] at he; cases he
    | some x=>
      rw [h] at he
      cases he
      have hi:=(List.getElem?_eq_some_iff.mp h).1
      have hx:x = false:=by have:=List.mem_of_getElem? h; exact (List.mem_replicate.mp this).2
      subst hx
      simp only [List.length_replicate] at hi
      refine ⟨[.bool false],?_,.cons (.flat rfl) .nil⟩
      rw [Y9,Vb _ _ (by simp; omega),Nat.zero_add,Nat.mul_one,List.drop_replicate]
      obtain ⟨m,hm⟩:∃ m,k - i = m + 1:=⟨k - i - 1,by omega⟩
      rw [hm]; rfl)
  rw [hlen] at this
  exact this
def V7 (rows cols:Int):Bool:=((decide (rows < 1) || decide (16 < rows)) || decide (cols < 1)) || decide (256 < cols)
theorem bsl154 {σ:St} {x k:Nat} {cap:Cap}:Vi (C M) 113 1 [(0,.one (.slice (some (x,0)) k cap))] σ = .new (.cells [.slice (some (x,0)) k cap] 32 true) (fun i=>.one (.slice (some (i,0)) 1 (.to (0 + 1)))):=by kernel_rfl
theorem new156 {σ:St}:Xe (C M) 115 σ = .new (.cells [.int .u64 0,.slice none 0 (.ex 0)] 115 true) (fun a=>P a 0):=by kernel_rfl
theorem bld156 {σ:St} {u:Int}:Xp (C M) 115 [(0,Iu u)] σ = .val (.agg [.int .u64 u,.slice none 0 (.ex 0)]):=by kernel_rfl
theorem bld156z {σ:St}:Xp (C M) 115 [] σ = .val (.agg [.int .u64 0,.slice none 0 (.ex 0)]):=by kernel_rfl
structure BitmapAt (σ:St) (a8 a10:Nat) (u:Int) (k j:Nat) (cv:CV):Prop where
  lt8:a8 < a10
  lt10:a10 < σ.next
  g8:∃ l,σ.get a8 = some (.cells l 115 true)∧l.length = 2
  g10:σ.get a10 = some (.cells [.int .u64 u,cv] 115 true)
  own:∃ l,Own (a10 + 1) σ 0 32 cv l∧l.length = j∧RepL (fun i=>¬ X5 cv i∧a10 < i) σ l (List.replicate j (Zk (List.replicate k false)))
theorem bitmap_flat_rep {α:Type} (x:α):∀ r:Nat,(List.replicate r [x]).flatten = List.replicate r x
  | 0=>rfl
  | r + 1=>by rw [List.replicate_succ,List.flatten_cons,bitmap_flat_rep x r]; rfl
theorem bitmap_it {fuel a8 a10 k j:Nat} {rows:Int} {σ:St} {u:Int} {cv:CV} {call:Qd} {Q:AV→St→Prop} (h:BitmapAt σ a8 a10 u k j cv) (h1:1≤k) (h2:k≤256) (hj:j≤1000) (hr:(j:Int) < rows)
    (hk:∀ σ' cv',BitmapAt σ' a8 a10 u k (j + 1) cv'→(∀ i,i < a8→σ'.get i = σ.get i)→Yl (L41_6 M call fuel (I (k:Nat)) (P a8 0) (P a10 0) (I rows) (I ((j + 1:Nat):Int)) σ') Q) :
    Yl (L41_6 M call (fuel + 1) (I (k:Nat)) (P a8 0) (P a10 0) (I rows) (I (j:Nat)) σ) Q:=by
  obtain ⟨l8,l10,⟨c8,g8,g8'⟩,g10,l,hown,hl,hrep⟩:=h
  rw [L41_6_succ]
  unfold L41_6_b
  refine Qb (V3) ?_
  unfold K41_7
  refine Xc (decide_eq_true hr) ?_
  unfold K41_8
  refine y_at ?_
  refine X0 ?_
  have hnot:∀ i,i < a10 + 1→¬ X5 cv i:=by
    rintro i hi ⟨n,c,rfl⟩
    rcases hown with ⟨h,_⟩ | ⟨k',n',h,hk',_⟩
    · cases h
    · cases h; omega
  have atlt:∀ i,X5 cv i→i < σ.next:=by
    rintro i ⟨n,c,rfl⟩
    rcases hown with ⟨h,_⟩ | ⟨k',n',h,_,hk',_⟩
    · cases h
    · cases h; exact hk'
  have G10:(σ.gap 8).get a10 = some (.cells [.int .u64 u,cv] 115 true):=g10
  have isl:∃ p n c,cv = .slice p n c:=by
    rcases hown with ⟨h,_⟩ | ⟨k',n',h,_⟩
    · exact ⟨_,_,_,h⟩
    · exact ⟨_,_,_,h⟩
  have hokv:okV (.one cv) = true:=rfl
  refine Qf (Wv) ?_
  refine Qj (Xq G10 rfl (Qq Wt rfl)) hokv ?_
  refine Nf (mks4 h1 (by omega)) ?_
  refine Nf (bsl154) ?_
  generalize hσ2:((σ.gap 8).lay (Nat.add σ.next 3) (.cells (List.replicate k (.bool false)) 4 true)).lay (Nat.add σ.next 4) (.cells [.slice (some (Nat.add σ.next 3,0)) k (.to 1)] 32 true) = σ2
  have n2:σ2.next = σ.next + 8:=by rw [← hσ2]; rfl
  have old:∀ i,i < σ.next→σ2.get i = σ.get i:=fun i hi=>by
    rw [← hσ2,St.get_lay,if_neg (by simp only [Nat.add_eq]; omega),St.get_lay,if_neg (by simp only [Nat.add_eq]; omega)]; rfl
  have r2:σ2.get (Nat.add σ.next 3) = some (.cells (List.replicate k (.bool false)) 4 true):=by
    rw [← hσ2,St.get_lay,if_neg (by simp only [Nat.add_eq]; omega),St.get_lay,if_pos rfl]
  have e2:σ2.get (Nat.add σ.next 4) = some (.cells [.slice (some (Nat.add σ.next 3,0)) k (.to 1)] 32 true):=by rw [← hσ2,St.get_lay,if_pos rfl]
  have own2:Own (a10 + 1) σ2 0 32 cv l:=hown.to (by omega) fun i hi=>old i (atlt i hi)
  obtain ⟨cv',σ3,p1,p2,p3,p4,p5⟩:=Wr (t:=113) (cx:=C M) W9 in32 (by kernel_rfl) (by kernel_rfl) own2 (by omega) e2 rfl rfl (by omega) (by decide)
  have g10':σ3.get a10 = some (.cells [.int .u64 u,cv] 115 true):=by rw [p4 a10 (by omega) (hnot a10 (by omega)),old a10 l10]; exact g10
  refine X7 (p1) ?_
  refine Qf (Wv) ?_
  refine X7 (X1 g10' rfl sz113 rfl rfl) ?_
  unfold K41_9
  refine Qb (o_add) ?_
  rw [Xw (by omega) (by omega)]
  have np:∀ i,i < σ2.next→¬ X5 cv' i:=fun i hi hat=>by have:=p5 i hat; omega
  refine hk _ cv' ⟨l8,by rw [St.next_put]; omega,⟨c8,by rw [St.get_put,if_neg (by omega),p4 a8 (by omega) (hnot a8 (by omega)),old a8 (by omega)]; exact g8,g8'⟩,by rw [St.get_put,if_pos rfl],_,p2.to (by rw [St.next_put]; omega) (fun i hi=>by rw [St.get_put,if_neg (fun e=>np i (by omega) hi)]),by rw [List.length_append,hl]; rfl,?_⟩ ?_
  · rw [List.replicate_succ']
    refine RepL.append ?_ (.cons ?_ .nil)
    · refine hrep.to fun i hi hlt=>⟨?_,by rw [St.next_put]; omega,np i (by omega),hi.2⟩
      rw [St.get_put,if_neg (by omega),p4 i (by omega) hi.1,old i hlt]
    · refine rep_row4 ⟨np _ (by simp only [Nat.add_eq]; omega),by simp only [Nat.add_eq]; omega⟩ (by rw [St.next_put]; simp only [Nat.add_eq]; omega) ?_
      rw [St.get_put,if_neg (by simp only [Nat.add_eq]; omega),p4 _ (by simp only [Nat.add_eq]; omega) (fun hat=>by have:=atlt _ hat; simp only [Nat.add_eq] at this; omega)]
      exact r2
  · intro i hi
    rw [St.get_put,if_neg (by omega),p4 i (by omega) (hnot i (by omega)),old i (by omega)]
theorem bitmap_loop {fuel a8 a10 k:Nat} {rows:Nat} {u:Int} {call:Qd} {Q:AV→St→Prop} (h1:1≤k) (h2:k≤256) (hrows:rows≤1000):∀ (d j:Nat) (fuel:Nat) (σ:St) (cv:CV),j + d = rows→d < fuel→BitmapAt σ a8 a10 u k j cv →
    (∀ σ' cv',BitmapAt σ' a8 a10 u k rows cv'→(∀ i,i < a8→σ'.get i = σ.get i)→Yl (Jm M call (P a8 0) (P a10 0) σ') Q)→Yl (L41_6 M call fuel (I (k:Nat)) (P a8 0) (P a10 0) (I (rows:Nat)) (I (j:Nat)) σ) Q:=by
  intro d
  induction d with
  | zero=>
    intro j fuel σ cv hj hf h hk
    obtain ⟨f,rfl⟩:∃ f,fuel = f + 1:=⟨fuel - 1,by omega⟩
    have:j = rows:=by omega
    subst this
    rw [L41_6_succ]
    unfold L41_6_b
    refine Qb (V3) ?_
    unfold K41_7
    refine Qx (decide_eq_false (by omega)) ?_
    exact hk σ cv h fun _ _=>rfl
  | succ d ih=>
    intro j fuel σ cv hj hf h hk
    obtain ⟨f,rfl⟩:∃ f,fuel = f + 1:=⟨fuel - 1,by omega⟩
    refine bitmap_it h h1 h2 (by omega) (by omega) fun σ' cv' h' hg=>?_
    exact ih (j + 1) f σ' cv' (by omega) (by omega) h' fun σ2 cv2 h2' hg2=>hk σ2 cv2 h2' fun i hi=>(hg2 i hi).trans (hg i hi)
theorem bitmap_new {n:Nat} {σ:St} {tab:Tab} {u rows cols:Int} (ht:tab 41 = none) :
    Yl (Ql (C M) tab (n + 1) 41 [Iu u,I rows,I cols] σ) (fun v σ'=>Gr σ σ'∧((V7 rows cols = true∧v = .tup [.agg [.int .u64 0,.slice none 0 (.ex 0)],I 1]) ∨
      (V7 rows cols = false∧∃ cv,v = .tup [.agg [.int .u64 u,cv],I 0]∧Rep (fun i=>σ.next≤i) σ' cv (Jp (List.replicate rows.toNat (List.replicate cols.toNat false)))))):=by
  refine Q3 ht Tryz.func41 (by kernel_rfl) ?_
  rw [F41_eq]
  unfold K41_0
  refine Ye (new156) ?_
  generalize hσ1:σ.push (.cells [.int .u64 0,.slice none 0 (.ex 0)] 115 true) = σ1
  have n1:σ1.next = σ.next + 1:=by rw [← hσ1]; rfl
  have e1:Gr σ σ1:=by rw [← hσ1]; exact Gr.push _ _
  have g1:σ1.get σ.next = some (.cells [.int .u64 0,.slice none 0 (.ex 0)] 115 true):=by rw [← hσ1,St.get_push,if_pos rfl]
  unfold K41_1
  refine Qb (V3) ?_
  refine y_org (y_orl (y_org ?_))
  refine y_if (fun hb=>?_) (fun hb=>?_)
  · have hb:V7 rows cols = true:=hb
    refine Qb (bld156z) ?_
    refine Yj (X1 g1 rfl sz115 rfl rfl) ?_
    refine Vs (Y7 (by rw [St.get_put,if_pos rfl]) rfl ag115 sz115 rfl) ⟨e1.put _ (Nat.le_refl _),.inl ⟨hb,rfl⟩⟩
  · have hb:V7 rows cols = false:=hb
    have hb':=hb
    unfold V7 at hb'
    simp only [Bool.or_eq_false_iff,decide_eq_false_iff_not] at hb'
    obtain ⟨⟨⟨b1,b2⟩,b3⟩,b4⟩:=hb'
    obtain ⟨r,rfl⟩:∃ r:Nat,rows = (r:Int):=⟨rows.toNat,by omega⟩
    obtain ⟨k,rfl⟩:∃ k:Nat,cols = (k:Int):=⟨cols.toNat,by omega⟩
    unfold K41_2
    refine Qb (bld156) ?_
    refine Ye (new156) ?_
    refine Yj (X1 (by rw [St.get_push,if_pos rfl]) rfl sz115 rfl rfl) ?_
    generalize hσ2:(σ1.push (.cells [.int .u64 0,.slice none 0 (.ex 0)] 115 true)).put σ1.next (.cells [.int .u64 u,.slice none 0 (.ex 0)] 115 true) = σ2
    have n2:σ2.next = σ1.next + 1:=by rw [← hσ2]; rfl
    have e2:Gr σ1 σ2:=by rw [← hσ2]; exact (Gr.push _ _).put _ (Nat.le_refl _)
    have hR:BitmapAt σ2 σ.next σ1.next u k 0 (.slice none 0 (.ex 0)):=⟨by omega,by omega,⟨_,(e2.2 _ (by omega)).trans g1,rfl⟩,by rw [← hσ2,St.get_put,if_pos rfl],[],Own.nil,rfl,.nil⟩
    unfold K41_3 K41_5
    refine bitmap_loop (fuel:=0) (rows:=r) (by omega) (by omega) (by omega) r 0 M σ2 _ (by omega) (by unfold M; omega) hR fun σ3 cv h3 hg3=>?_
    obtain ⟨l8,l10,⟨c8,g8,g8'⟩,g10,l,hown,hl,hrep⟩:=h3
    unfold Jm
    refine Qb (Xq g10 rfl (X2 ag115 sz115 rfl)) ?_
    obtain ⟨x1,x2,rfl⟩:∃ x1 x2,c8 = [x1,x2]:=by
      match c8,g8' with
      | [a,b],_=>exact ⟨a,b,rfl⟩
    refine Yj (X1 g8 rfl sz115 rfl rfl) ?_
    have hnot:∀ i,i < σ1.next + 1→¬ X5 cv i:=by
      rintro i hi ⟨n,c,rfl⟩
      rcases hown with ⟨h,_⟩ | ⟨k',n',h,hk',_⟩
      · cases h
      · cases h; omega
    refine Vs (Y7 (by rw [St.get_put,if_pos rfl]) rfl ag115 sz115 rfl) ⟨⟨by rw [St.next_put]; omega,fun i hi=>by rw [St.get_put,if_neg (by omega),hg3 i hi,e2.2 i (by omega),e1.2 i hi]⟩,.inr ⟨hb,cv,rfl,?_⟩⟩
    have hown':Own (σ1.next + 1) (σ3.put σ.next (.cells [.int .u64 u,cv] 115 true)) 0 32 cv l:=hown.to (by rw [St.next_put]; omega) fun i hi=>by rw [St.get_put,if_neg (fun e=>hnot i (by omega) hi)]
    have hrep':RepL (fun i=>σ.next≤i) (σ3.put σ.next (.cells [.int .u64 u,cv] 115 true)) l (List.replicate r (Zk (List.replicate k false))):=
      hrep.to fun i hi hlt=>⟨by rw [St.get_put,if_neg (by have:=hi.2; omega)],by rw [St.next_put]; exact hlt,by have:=hi.2; omega⟩
    have key:(List.replicate r (List.replicate k false)).map (fun r=>[Zk r]) = List.replicate r [Zk (List.replicate k false)]:=by rw [List.map_replicate]
    show Rep _ _ cv (.sl 1 ((List.replicate r (List.replicate k false)).map fun r=>[Zk r]))
    rw [key]
    refine hown'.rep (fun i hat=>Nat.le_of_not_lt fun hlt=>hnot i (by omega) hat) (fun x hx=>by rw [(List.mem_replicate.mp hx).2]; rfl) ?_
    rw [bitmap_flat_rep]
    exact hrep'
end Core
end Go.Proofs.YtjfgdcegpgoobaaGreatDoor
namespace Go.Proofs.YtjfgdcegpgoobaaGreatDoor
open Go.Run Go
namespace Core
open Ty
set_option maxRecDepth 1000000
theorem y_ore {p:Bool} {x c d:Int} {t:TypeId} {K:AV→Kt} {σ:St} {Q:AV→St→Prop} (hc:c ≠ 0) (h:Yl (K (B (p || (Int.tmod x c == d))) σ) Q) :
    Yl (bnd (gdO (Qc (B p) false) (fun _=>.val (I x))) (fun v=>bnd (gdO (Qc (B p) false) (Qi (C M) .rem t v (I c))) fun w=>bnd (gdO (Qc (B p) false) (Qi (C M) .eql t w (I d))) fun z=>bnd (Qm (B p) (B true) z) K) σ) Q:=by
  cases p with
  | true=>exact Xo rfl (Xo rfl (Xo rfl (Qb rfl (by rw [Bool.true_or] at h; exact h))))
  | false=>exact Qz rfl rfl (Qz rfl (o_rem hc) (Qz rfl o_eql (Qb rfl (by rw [Bool.false_or] at h; exact h))))
def Y5 (rows cols:Int):Bool:=(((decide (rows < 1) || decide (7 < rows)) || (Int.tmod rows 2 == 0)) || decide (cols < 1)) || decide (256 < cols)
theorem new148 {σ:St}:Xe (C M) 100 σ = .new (.cells [.int .u64 0,.slice none 0 (.ex 0)] 100 true) (fun a=>P a 0):=by kernel_rfl
theorem bld148 {σ:St} {u:Int}:Xp (C M) 100 [(0,Iu u)] σ = .val (.agg [.int .u64 u,.slice none 0 (.ex 0)]):=by kernel_rfl
theorem bld148z {σ:St}:Xp (C M) 100 [] σ = .val (.agg [.int .u64 0,.slice none 0 (.ex 0)]):=by kernel_rfl
structure SignedAt (σ:St) (a8 a10:Nat) (u:Int) (k j:Nat) (cv:CV):Prop where
  lt8:a8 < a10
  lt10:a10 < σ.next
  g8:∃ l,σ.get a8 = some (.cells l 100 true)∧l.length = 2
  g10:σ.get a10 = some (.cells [.int .u64 u,cv] 100 true)
  own:∃ l,Own (a10 + 1) σ 0 25 cv l∧l.length = j∧RepL (fun i=>¬ X5 cv i∧a10 < i) σ l (List.replicate j (Ww (List.replicate k 0)))
theorem signed_flat_rep {α:Type} (x:α):∀ r:Nat,(List.replicate r [x]).flatten = List.replicate r x
  | 0=>rfl
  | r + 1=>by rw [List.replicate_succ,List.flatten_cons,signed_flat_rep x r]; rfl
theorem signed_it {fuel a8 a10 k j:Nat} {rows:Int} {σ:St} {u:Int} {cv:CV} {call:Qd} {Q:AV→St→Prop} (h:SignedAt σ a8 a10 u k j cv) (h1:1≤k) (h2:k≤256) (hj:j≤1000) (hr:(j:Int) < rows)
    (hk:∀ σ' cv',SignedAt σ' a8 a10 u k (j + 1) cv'→(∀ i,i < a8→σ'.get i = σ.get i)→Yl (L40_6 M call fuel (I (k:Nat)) (P a8 0) (P a10 0) (I rows) (I ((j + 1:Nat):Int)) σ') Q) :
    Yl (L40_6 M call (fuel + 1) (I (k:Nat)) (P a8 0) (P a10 0) (I rows) (I (j:Nat)) σ) Q:=by
  obtain ⟨l8,l10,⟨c8,g8,g8'⟩,g10,l,hown,hl,hrep⟩:=h
  rw [L40_6_succ]
  unfold L40_6_b
  refine Qb (V3) ?_
  unfold K40_7
  refine Xc (decide_eq_true hr) ?_
  unfold K40_8
  refine y_at ?_
  refine X0 ?_
  have hnot:∀ i,i < a10 + 1→¬ X5 cv i:=by
    rintro i hi ⟨n,c,rfl⟩
    rcases hown with ⟨h,_⟩ | ⟨k',n',h,hk',_⟩
    · cases h
    · cases h; omega
  have atlt:∀ i,X5 cv i→i < σ.next:=by
    rintro i ⟨n,c,rfl⟩
    rcases hown with ⟨h,_⟩ | ⟨k',n',h,_,hk',_⟩
    · cases h
    · cases h; exact hk'
  have G10:(σ.gap 8).get a10 = some (.cells [.int .u64 u,cv] 100 true):=g10
  have isl:∃ p n c,cv = .slice p n c:=by
    rcases hown with ⟨h,_⟩ | ⟨k',n',h,_⟩
    · exact ⟨_,_,_,h⟩
    · exact ⟨_,_,_,h⟩
  have hokv:okV (.one cv) = true:=rfl
  refine Qf (Ja) ?_
  refine Qj (Xq G10 rfl (Qq ag27 rfl)) hokv ?_
  refine Nf (mks3 h1 (by omega)) ?_
  refine Nf (bsl51) ?_
  generalize hσ2:((σ.gap 8).lay (Nat.add σ.next 3) (.cells (List.replicate k (.int .i64 0)) 3 true)).lay (Nat.add σ.next 4) (.cells [.slice (some (Nat.add σ.next 3,0)) k (.to 1)] 25 true) = σ2
  have n2:σ2.next = σ.next + 8:=by rw [← hσ2]; rfl
  have old:∀ i,i < σ.next→σ2.get i = σ.get i:=fun i hi=>by
    rw [← hσ2,St.get_lay,if_neg (by simp only [Nat.add_eq]; omega),St.get_lay,if_neg (by simp only [Nat.add_eq]; omega)]; rfl
  have r2:σ2.get (Nat.add σ.next 3) = some (.cells (List.replicate k (.int .i64 0)) 3 true):=by
    rw [← hσ2,St.get_lay,if_neg (by simp only [Nat.add_eq]; omega),St.get_lay,if_pos rfl]
  have e2:σ2.get (Nat.add σ.next 4) = some (.cells [.slice (some (Nat.add σ.next 3,0)) k (.to 1)] 25 true):=by rw [← hσ2,St.get_lay,if_pos rfl]
  have own2:Own (a10 + 1) σ2 0 25 cv l:=hown.to (by omega) fun i hi=>old i (atlt i hi)
  obtain ⟨cv',σ3,p1,p2,p3,p4,p5⟩:=Wr (t:=27) (cx:=C M) Jj in25 (by kernel_rfl) (by kernel_rfl) own2 (by omega) e2 rfl rfl (by omega) (by decide)
  have g10':σ3.get a10 = some (.cells [.int .u64 u,cv] 100 true):=by rw [p4 a10 (by omega) (hnot a10 (by omega)),old a10 l10]; exact g10
  refine X7 (p1) ?_
  refine Qf (Ja) ?_
  refine X7 (X1 g10' rfl sz27 rfl rfl) ?_
  unfold K40_9
  refine Qb (o_add) ?_
  rw [Xw (by omega) (by omega)]
  have np:∀ i,i < σ2.next→¬ X5 cv' i:=fun i hi hat=>by have:=p5 i hat; omega
  refine hk _ cv' ⟨l8,by rw [St.next_put]; omega,⟨c8,by rw [St.get_put,if_neg (by omega),p4 a8 (by omega) (hnot a8 (by omega)),old a8 (by omega)]; exact g8,g8'⟩,by rw [St.get_put,if_pos rfl],_,p2.to (by rw [St.next_put]; omega) (fun i hi=>by rw [St.get_put,if_neg (fun e=>np i (by omega) hi)]),by rw [List.length_append,hl]; rfl,?_⟩ ?_
  · rw [List.replicate_succ']
    refine RepL.append ?_ (.cons ?_ .nil)
    · refine hrep.to fun i hi hlt=>⟨?_,by rw [St.next_put]; omega,np i (by omega),hi.2⟩
      rw [St.get_put,if_neg (by omega),p4 i (by omega) hi.1,old i hlt]
    · refine rep_row ⟨np _ (by simp only [Nat.add_eq]; omega),by simp only [Nat.add_eq]; omega⟩ (by rw [St.next_put]; simp only [Nat.add_eq]; omega) ?_
      rw [St.get_put,if_neg (by simp only [Nat.add_eq]; omega),p4 _ (by simp only [Nat.add_eq]; omega) (fun hat=>by have:=atlt _ hat; simp only [Nat.add_eq] at this; omega)]
      exact r2
  · intro i hi
    rw [St.get_put,if_neg (by omega),p4 i (by omega) (hnot i (by omega)),old i (by omega)]
theorem signed_loop {fuel a8 a10 k:Nat} {rows:Nat} {u:Int} {call:Qd} {Q:AV→St→Prop} (h1:1≤k) (h2:k≤256) (hrows:rows≤1000):∀ (d j:Nat) (fuel:Nat) (σ:St) (cv:CV),j + d = rows→d < fuel→SignedAt σ a8 a10 u k j cv →
    (∀ σ' cv',SignedAt σ' a8 a10 u k rows cv'→(∀ i,i < a8→σ'.get i = σ.get i)→Yl (Jl M call (P a8 0) (P a10 0) σ') Q)→Yl (L40_6 M call fuel (I (k:Nat)) (P a8 0) (P a10 0) (I (rows:Nat)) (I (j:Nat)) σ) Q:=by
  intro d
  induction d with
  | zero=>
    intro j fuel σ cv hj hf h hk
    obtain ⟨f,rfl⟩:∃ f,fuel = f + 1:=⟨fuel - 1,by omega⟩
    have:j = rows:=by omega
    subst this
    rw [L40_6_succ]
    unfold L40_6_b
    refine Qb (V3) ?_
    unfold K40_7
    refine Qx (decide_eq_false (by omega)) ?_
    exact hk σ cv h fun _ _=>rfl
  | succ d ih=>
    intro j fuel σ cv hj hf h hk
    obtain ⟨f,rfl⟩:∃ f,fuel = f + 1:=⟨fuel - 1,by omega⟩
    refine signed_it h h1 h2 (by omega) (by omega) fun σ' cv' h' hg=>?_
    exact ih (j + 1) f σ' cv' (by omega) (by omega) h' fun σ2 cv2 h2' hg2=>hk σ2 cv2 h2' fun i hi=>(hg2 i hi).trans (hg i hi)
theorem signed_new {n:Nat} {σ:St} {tab:Tab} {u rows cols:Int} (ht:tab 40 = none) :
    Yl (Ql (C M) tab (n + 1) 40 [Iu u,I rows,I cols] σ) (fun v σ'=>Gr σ σ'∧((Y5 rows cols = true∧v = .tup [.agg [.int .u64 0,.slice none 0 (.ex 0)],I 1]) ∨
      (Y5 rows cols = false∧∃ cv,v = .tup [.agg [.int .u64 u,cv],I 0]∧Rep (fun i=>σ.next≤i) σ' cv (V1 (List.replicate rows.toNat (List.replicate cols.toNat 0)))))):=by
  refine Q3 ht Tryz.func40 (by kernel_rfl) ?_
  rw [F40_eq]
  unfold K40_0
  refine Ye (new148) ?_
  generalize hσ1:σ.push (.cells [.int .u64 0,.slice none 0 (.ex 0)] 100 true) = σ1
  have n1:σ1.next = σ.next + 1:=by rw [← hσ1]; rfl
  have e1:Gr σ σ1:=by rw [← hσ1]; exact Gr.push _ _
  have g1:σ1.get σ.next = some (.cells [.int .u64 0,.slice none 0 (.ex 0)] 100 true):=by rw [← hσ1,St.get_push,if_pos rfl]
  unfold K40_1
  refine Qb (V3) ?_
  refine y_org (y_ore (by omega) (y_orl (y_org ?_)))
  refine y_if (fun hb=>?_) (fun hb=>?_)
  · have hb:Y5 rows cols = true:=hb
    refine Qb (bld148z) ?_
    refine Yj (X1 g1 rfl sz100 rfl rfl) ?_
    refine Vs (Y7 (by rw [St.get_put,if_pos rfl]) rfl ag100 sz100 rfl) ⟨e1.put _ (Nat.le_refl _),.inl ⟨hb,rfl⟩⟩
  · have hb:Y5 rows cols = false:=hb
    have hb':=hb
    unfold Y5 at hb'
    simp only [Bool.or_eq_false_iff,decide_eq_false_iff_not] at hb'
    obtain ⟨⟨⟨⟨b1,b2⟩,b0⟩,b3⟩,b4⟩:=hb'
    obtain ⟨r,rfl⟩:∃ r:Nat,rows = (r:Int):=⟨rows.toNat,by omega⟩
    obtain ⟨k,rfl⟩:∃ k:Nat,cols = (k:Int):=⟨cols.toNat,by omega⟩
    unfold K40_2
    refine Qb (bld148) ?_
    refine Ye (new148) ?_
    refine Yj (X1 (by rw [St.get_push,if_pos rfl]) rfl sz100 rfl rfl) ?_
    generalize hσ2:(σ1.push (.cells [.int .u64 0,.slice none 0 (.ex 0)] 100 true)).put σ1.next (.cells [.int .u64 u,.slice none 0 (.ex 0)] 100 true) = σ2
    have n2:σ2.next = σ1.next + 1:=by rw [← hσ2]; rfl
    have e2:Gr σ1 σ2:=by rw [← hσ2]; exact (Gr.push _ _).put _ (Nat.le_refl _)
    have hR:SignedAt σ2 σ.next σ1.next u k 0 (.slice none 0 (.ex 0)):=⟨by omega,by omega,⟨_,(e2.2 _ (by omega)).trans g1,rfl⟩,by rw [← hσ2,St.get_put,if_pos rfl],[],Own.nil,rfl,.nil⟩
    unfold K40_3 K40_5
    refine signed_loop (fuel:=0) (rows:=r) (by omega) (by omega) (by omega) r 0 M σ2 _ (by omega) (by unfold M; omega) hR fun σ3 cv h3 hg3=>?_
    obtain ⟨l8,l10,⟨c8,g8,g8'⟩,g10,l,hown,hl,hrep⟩:=h3
    unfold Jl
    refine Qb (Xq g10 rfl (X2 ag100 sz100 rfl)) ?_
    obtain ⟨x1,x2,rfl⟩:∃ x1 x2,c8 = [x1,x2]:=by
      match c8,g8' with
      | [a,b],_=>exact ⟨a,b,rfl⟩
    refine Yj (X1 g8 rfl sz100 rfl rfl) ?_
    have hnot:∀ i,i < σ1.next + 1→¬ X5 cv i:=by
      rintro i hi ⟨n,c,rfl⟩
      rcases hown with ⟨h,_⟩ | ⟨k',n',h,hk',_⟩
      · cases h
      · cases h; omega
    refine Vs (Y7 (by rw [St.get_put,if_pos rfl]) rfl ag100 sz100 rfl) ⟨⟨by rw [St.next_put]; omega,fun i hi=>by rw [St.get_put,if_neg (by omega),hg3 i hi,e2.2 i (by omega),e1.2 i hi]⟩,.inr ⟨hb,cv,rfl,?_⟩⟩
    have hown':Own (σ1.next + 1) (σ3.put σ.next (.cells [.int .u64 u,cv] 100 true)) 0 25 cv l:=hown.to (by rw [St.next_put]; omega) fun i hi=>by rw [St.get_put,if_neg (fun e=>hnot i (by omega) hi)]
    have hrep':RepL (fun i=>σ.next≤i) (σ3.put σ.next (.cells [.int .u64 u,cv] 100 true)) l (List.replicate r (Ww (List.replicate k 0))):=
      hrep.to fun i hi hlt=>⟨by rw [St.get_put,if_neg (by have:=hi.2; omega)],by rw [St.next_put]; exact hlt,by have:=hi.2; omega⟩
    have key:(List.replicate r (List.replicate k (0:Int))).map (fun r=>[Ww r]) = List.replicate r [Ww (List.replicate k 0)]:=by rw [List.map_replicate]
    show Rep _ _ cv (.sl 1 ((List.replicate r (List.replicate k (0:Int))).map fun r=>[Ww r]))
    rw [key]
    refine hown'.rep (fun i hat=>Nat.le_of_not_lt fun hlt=>hnot i (by omega) hat) (fun x hx=>by rw [(List.mem_replicate.mp hx).2]; rfl) ?_
    rw [signed_flat_rep]
    exact hrep'
end Core
end Go.Proofs.YtjfgdcegpgoobaaGreatDoor
namespace Go.Proofs.YtjfgdcegpgoobaaGreatDoor
open Go.Run Go
namespace Core
open Ty
set_option maxRecDepth 1000000
def bloomOk (h:Int) (n:Nat):Bool:=(((!decide (h < 1)) && !decide (7 < h)) && !decide ((n:Int) < 1)) && !decide (256 < (n:Int))
theorem bloom_right {n len:Nat} {σ:St} {tab:Tab} {u h:Int} {p:Option (Nat × Nat)} {cap:Cap} (ht:tab 86 = none) :
    Yl (Ql (C M) tab (n + 1) 86 [.agg [.int .u64 u,.int .i64 h,.slice p len cap]] σ) (fun v σ'=>v = B (bloomOk h len)∧Gr σ σ'):=by
  refine Q3 ht Tryz.func86 (by kernel_rfl) ?_
  rw [F86_eq]
  unfold K86_0
  have g1:(σ.push (.cells [.int .u64 u,.int .i64 h,.slice p len cap] 34 true)).get σ.next = some (.cells [.int .u64 u,.int .i64 h,.slice p len cap] 34 true):=by rw [St.get_push,if_pos rfl]
  have fin:Gr σ (σ.push (.cells [.int .u64 u,.int .i64 h,.slice p len cap] 34 true)):=Gr.push _ _
  refine Ye (rfl) ?_
  refine Qb (fa34_1) ?_
  refine Qb (Xq g1 rfl (Qq ag3 rfl)) ?_
  refine Qb (o_geq) ?_
  unfold bloomOk
  cases h1:decide (h < 1) with
  | true=>
    refine Xo rfl ?_
    refine Xo rfl ?_
    refine Xo rfl ?_
    refine Qb (rfl) ?_
    refine Xo rfl ?_
    refine Xo rfl ?_
    refine Xo rfl ?_
    refine Xo rfl ?_
    refine Qb (rfl) ?_
    refine Xo rfl ?_
    refine Xo rfl ?_
    refine Xo rfl ?_
    refine Xo rfl ?_
    refine Qb (rfl) ?_
    exact Qs ⟨rfl,fin⟩
  | false=>
    refine Qz rfl (fa34_1) ?_
    refine Qz rfl (Xq g1 rfl (Qq ag3 rfl)) ?_
    refine Qz rfl (o_leq) ?_
    refine Qb (rfl) ?_
    cases h2:decide (7 < h) with
    | true=>
      refine Xo rfl ?_
      refine Xo rfl ?_
      refine Xo rfl ?_
      refine Xo rfl ?_
      refine Qb (rfl) ?_
      refine Xo rfl ?_
      refine Xo rfl ?_
      refine Xo rfl ?_
      refine Xo rfl ?_
      refine Qb (rfl) ?_
      exact Qs ⟨rfl,fin⟩
    | false=>
      refine Qz rfl (fa34_2) ?_
      refine Qz rfl (Xq g1 rfl (Qq ag32 rfl)) ?_
      refine Qz rfl (o_len un32) ?_
      refine Qz rfl (o_geq) ?_
      refine Qb (rfl) ?_
      cases h3:decide ((len:Int) < 1) with
      | true=>
        refine Xo rfl ?_
        refine Xo rfl ?_
        refine Xo rfl ?_
        refine Xo rfl ?_
        refine Qb (rfl) ?_
        exact Qs ⟨rfl,fin⟩
      | false=>
        refine Qz rfl (fa34_2) ?_
        refine Qz rfl (Xq g1 rfl (Qq ag32 rfl)) ?_
        refine Qz rfl (o_len un32) ?_
        refine Qz rfl (o_leq) ?_
        refine Qb (rfl) ?_
        exact Qs ⟨by simp,fin⟩
theorem new58 {σ:St}:Xe (C M) 34 σ = .new (.cells [.int .u64 0,.int .i64 0,.slice none 0 (.ex 0)] 34 true) (fun a=>P a 0):=by kernel_rfl
theorem bld58 {σ:St} {u h:Int} {x k:Nat} {cap:Cap}:Xp (C M) 34 [(0,Iu u),(1,I h),(2,.one (.slice (some (x,0)) k cap))] σ = .val (.agg [.int .u64 u,.int .i64 h,.slice (some (x,0)) k cap]):=by kernel_rfl
theorem bld58z {σ:St}:Xp (C M) 34 [] σ = .val (.agg [.int .u64 0,.int .i64 0,.slice none 0 (.ex 0)]):=by kernel_rfl
def Jq (bits h:Int):Bool:=((decide (bits < 1) || decide (256 < bits)) || decide (h < 1)) || decide (7 < h)
def bloomZ:AV:=.agg [.int .u64 0,.int .i64 0,.slice none 0 (.ex 0)]
theorem bloom_new {n:Nat} {σ:St} {tab:Tab} {u bits h:Int} (ht:tab 86 = none) (ht2:tab 38 = none) :
    Yl (Ql (C M) tab (n + 2) 38 [Iu u,I bits,I h] σ) (fun v σ'=>Gr σ σ'∧((Jq bits h = true∧v = .tup [bloomZ,I 1]) ∨
      (Jq bits h = false∧∃ cv,v = .tup [.agg [.int .u64 u,.int .i64 h,cv],I 0]∧Rep (fun i=>σ.next≤i) σ' cv (Zk (List.replicate bits.toNat false))))):=by
  refine Q3 ht2 Tryz.func38 (by kernel_rfl) ?_
  rw [F38_eq]
  unfold K38_0
  refine Ye (new58) ?_
  generalize hσ1:σ.push (.cells [.int .u64 0,.int .i64 0,.slice none 0 (.ex 0)] 34 true) = σ1
  have n1:σ1.next = σ.next + 1:=by rw [← hσ1]; rfl
  have e1:Gr σ σ1:=by rw [← hσ1]; exact Gr.push _ _
  have g1:σ1.get σ.next = some (.cells [.int .u64 0,.int .i64 0,.slice none 0 (.ex 0)] 34 true):=by rw [← hσ1,St.get_push,if_pos rfl]
  refine Qb (V3) ?_
  refine y_org ?_
  refine y_if (fun hb=>?_) (fun hb=>?_)
  · refine Qb (bld58z) ?_
    refine Yj (X1 g1 rfl sz34 rfl rfl) ?_
    refine Vs (Y7 (by rw [St.get_put,if_pos rfl]) rfl ag34 sz34 rfl) ⟨e1.put _ (Nat.le_refl _),.inl ⟨by unfold Jq; rw [hb]; rfl,rfl⟩⟩
  · have hb':=hb
    simp only [Bool.or_eq_false_iff,decide_eq_false_iff_not] at hb'
    obtain ⟨b1,b2⟩:=hb'
    obtain ⟨k,rfl⟩:∃ k:Nat,bits = (k:Int):=⟨bits.toNat,by omega⟩
    refine Ye (mks4 (by omega) (by omega)) ?_
    refine Qb (bld58) ?_
    refine Ye (new58) ?_
    refine Yj (X1 (by rw [St.get_push,if_pos rfl]) rfl sz34 rfl rfl) ?_
    generalize hσ2:σ1.push (.cells (List.replicate k (.bool false)) 4 true) = σ2
    have n2:σ2.next = σ1.next + 1:=by rw [← hσ2]; rfl
    have e2:Gr σ1 σ2:=by rw [← hσ2]; exact Gr.push _ _
    have r2:σ2.get σ1.next = some (.cells (List.replicate k (.bool false)) 4 true):=by rw [← hσ2,St.get_push,if_pos rfl]
    generalize hσ3:(σ2.push (.cells [.int .u64 0,.int .i64 0,.slice none 0 (.ex 0)] 34 true)).put σ2.next (.cells [.int .u64 u,.int .i64 h,.slice (some (σ1.next,0)) k (.to 1)] 34 true) = σ3
    have n3:σ3.next = σ2.next + 1:=by rw [← hσ3]; rfl
    have e3:Gr σ2 σ3:=by rw [← hσ3]; exact (Gr.push _ _).put _ (Nat.le_refl _)
    have g3:σ3.get σ2.next = some (.cells [.int .u64 u,.int .i64 h,.slice (some (σ1.next,0)) k (.to 1)] 34 true):=by rw [← hσ3,St.get_put,if_pos rfl]
    refine Qb (Xq g3 rfl (X2 ag34 sz34 rfl)) ?_
    refine V4 rfl (bloom_right (n:=n) ht) fun v σ4 ⟨hv,e4⟩=>?_
    subst hv
    have g4:=(e4.2 σ2.next (by omega)).trans g3
    have g14:=(e4.2 σ.next (by omega)).trans ((e3.2 σ.next (by omega)).trans ((e2.2 σ.next (by omega)).trans g1))
    have e14:=((e1.trans e2).trans e3).trans e4
    have hbb:Jq (k:Int) h = !bloomOk h k:=by
      unfold Jq bloomOk
      rw [hb,decide_eq_false (show ¬ (k:Int) < 1 by omega),decide_eq_false (show ¬ (256:Int) < (k:Int) by omega)]
      cases decide (h < 1) <;> cases decide (7 < h) <;> rfl
    refine Qb (rfl) ?_
    refine y_if (fun hk=>?_) (fun hk=>?_)
    · refine Qb (bld58z) ?_
      refine Yj (X1 g14 rfl sz34 rfl rfl) ?_
      refine Vs (Y7 (by rw [St.get_put,if_pos rfl]) rfl ag34 sz34 rfl) ⟨e14.put _ (Nat.le_refl _),.inl ⟨by rw [hbb]; exact hk,rfl⟩⟩
    · refine Qb (Xq g4 rfl (X2 ag34 sz34 rfl)) ?_
      refine Yj (X1 g14 rfl sz34 rfl rfl) ?_
      refine Vs (Y7 (by rw [St.get_put,if_pos rfl]) rfl ag34 sz34 rfl) ⟨e14.put _ (Nat.le_refl _),.inr ⟨by rw [hbb]; exact hk,_,rfl,?_⟩⟩
      refine rep_row4 (by omega) (by rw [St.next_put]; have:=e4.1; omega) ?_
      rw [St.get_put,if_neg (by omega),e4.2 _ (by omega),e3.2 _ (by omega)]
      exact r2
end Core
end Go.Proofs.YtjfgdcegpgoobaaGreatDoor
namespace Go.Proofs.YtjfgdcegpgoobaaGreatDoor
open Go.Run Go
namespace Core
open Ty
set_option maxRecDepth 1000000
theorem W1 {α:Type} (z:List α):∀ k,(Xj k z).length = k * z.length
  | 0=>by simp [Xj]
  | k + 1=>by show (z ++ Xj k z).length = _; rw [List.length_append,W1 z k,Nat.add_mul]; omega
theorem repN_drop {α:Type} (z:List α):∀ (k i:Nat),i≤k→(Xj k z).drop (i * z.length) = Xj (k - i) z
  | k,0,_=>by simp
  | k + 1,i + 1,h=>by
    show (z ++ Xj k z).drop ((i + 1) * z.length) = _
    rw [Nat.add_mul,Nat.one_mul,Nat.add_comm,← List.drop_drop,List.drop_left,repN_drop z k i (by omega)]
    congr 1; omega
theorem repN_elem {z:List CV} {k j sz:Nat} (h:j < k) (hz:z.length = sz):Yo sz (Vm (0 + j * sz) (Xj k z)) = some z:=by
  subst hz
  rw [Nat.zero_add,Y9,repN_drop z k j (by omega)]
  obtain ⟨m,hm⟩:∃ m,k - j = m + 1:=⟨k - j - 1,by omega⟩
  rw [hm]
  show Yo z.length (z ++ Xj m z) = _
  rw [Vb _ _ (by simp),List.take_left]
theorem rep_fill {ok:Nat→Prop} {σ:St} {b k sz:Nat} {cap:Cap} {e:TypeId} {x:Bool} {z:List CV} {d:List DV} (ho:ok b) (hb:b < σ.next) (hg:σ.get b = some (.cells (Xj k z) e x)) (hz:z.length = sz) (hd:RepL ok σ z d):Rep ok σ (.slice (some (b,0)) k cap) (.sl sz (List.replicate k d)):=by
  have:=Rep.mk (sz:=sz) (cap:=cap) (o:=0) (es:=List.replicate k d) ho hb hg rfl (fun i e he=>by
    have:=List.mem_of_getElem? he
    rw [(List.mem_replicate.mp this).2,← hd.len,hz]) (fun i e he=>by
    have hi:=(List.getElem?_eq_some_iff.mp he).1
    simp only [List.length_replicate] at hi
    have:=List.mem_of_getElem? he
    rw [(List.mem_replicate.mp this).2]
    exact ⟨z,repN_elem hi hz,hd⟩)
  rw [List.length_replicate] at this
  exact this
theorem rowN {e:TypeId} {z:List CV} {sz k:Nat} (hz:zeroCells (C M) e = some z) (hl:z.length = sz) (h:1≤k):Na (C M) e sz k = some (Xj k z):=by
  unfold Na
  have hb:Nat.beq k 0 = false:=by
    cases hb:Nat.beq k 0 with
    | false=>rfl
    | true=>have:=Nat.eq_of_beq_eq_true hb; omega
  rw [hb,hz]
  show (bif Nat.beq (Ym z) sz then some (Xj k z) else none) = _
  rw [lenN_len,hl,Nat.beq_refl]; rfl
theorem mksN {t e sz by' k:Nat} {z:List CV} {σ:St} (hu:und (C M) t = some (.slice e)) (hi:((C M).P.info? e).map (fun t=>(t.size,t.bytes)) = some (sz,by')) (hz:zeroCells (C M) e = some z) (hl:z.length = sz) (hs:Nat.beq sz 0 = false) (h:1≤k) (hk:k≤100000) (hb:by'≤100000) :
    mksO (C M) t (I (k:Nat)) (I (k:Nat)) σ = .new (.cells (Xj k z) e true) (fun i=>.one (.slice (some (i,0)) k (.to sz))):=by
  obtain ⟨inf,hi,he⟩:=Option.map_eq_some_iff.mp hi
  obtain ⟨he1,he2⟩:=Prod.mk.inj he
  have he1:inf.size = sz:=he1
  have he2:inf.bytes = by':=he2
  have hm:by' * k≤100000 * 100000:=Nat.mul_le_mul hb hk
  have:=o_mks (cx:=C M) (σ:=σ) (len:=k) (cp:=k) hu hi (by rw [he1]; exact rowN hz hl h) (by rw [he1,he2,Nat.ble_eq_true_of_le (by omega),Nat.ble_eq_true_of_le (by omega),Nat.ble_eq_true_of_le (by omega),hs]; rfl)
  rw [he1] at this
  exact this
theorem zero215:zeroCells (C M) 87 = some [.slice none 0 (.ex 0),.int .i64 0]:=by kernel_rfl
theorem new55 {σ:St}:Xe (C M) 31 σ = .new (.cells [.int .u64 0,.int .i64 0,.int .i64 0,.slice none 0 (.ex 0),.int .u64 0,.int .i64 0,.slice none 0 (.ex 0)] 31 true) (fun a=>P a 0):=by kernel_rfl
theorem bld55 {σ:St} {u r v lu lm:Int} {x k:Nat} {cap:Cap} {cv:CV}:Xp (C M) 31 [(0,Iu u),(1,I r),(2,I v),(3,.one (.slice (some (x,0)) k cap)),(4,.agg [.int .u64 lu,.int .i64 lm,cv])] σ = .val (.agg [.int .u64 u,.int .i64 r,.int .i64 v,.slice (some (x,0)) k cap,.int .u64 lu,.int .i64 lm,cv]):=by kernel_rfl
theorem bld55z {σ:St}:Xp (C M) 31 [] σ = .val (.agg [.int .u64 0,.int .i64 0,.int .i64 0,.slice none 0 (.ex 0),.int .u64 0,.int .i64 0,.slice none 0 (.ex 0)]):=by kernel_rfl
def elasticZ:AV:=.agg [.int .u64 0,.int .i64 0,.int .i64 0,.slice none 0 (.ex 0),.int .u64 0,.int .i64 0,.slice none 0 (.ex 0)]
def Y6 (buckets room votes rows cols:Int):Bool:=
  (((((W6 rows cols 255 || decide (buckets < 1)) || decide (256 < buckets)) || decide (room < 1)) || decide (8 < room)) || decide (votes < 1)) || decide (64 < votes)
def bucket0:List DV:=[.sl 3 [],dI 0]
theorem elastic_new {n seed:Nat} {σ:St} {tab:Tab} {buckets room votes rows cols:Int} (t1:tab 84 = none) (t2:tab 85 = none) (t3:tab 37 = none) (t4:tab 36 = none) (t5:tab 12 = none) (t6:tab 35 = none) (t7:tab 11 = none) (hs:seed < 18446744073709551616) :
    Yl (Ql (C M) tab (n + 4) 11 [Iu (seed:Nat),I buckets,I room,I votes,I rows,I cols] σ) (fun v σ'=>Gr σ σ'∧((Y6 buckets room votes rows cols = true∧v = .tup [elasticZ,I 1]) ∨
      (Y6 buckets room votes rows cols = false∧∃ bv rv,v = .tup [.agg [.int .u64 seed,.int .i64 room,.int .i64 votes,bv,.int .u64 (Xa seed 1:Nat),.int .i64 255,rv],I 0] ∧
        Rep (fun i=>σ.next≤i) σ' bv (.sl 2 (List.replicate buckets.toNat bucket0))∧Rep (fun i=>σ.next≤i) σ' rv (V1 (List.replicate rows.toNat (List.replicate cols.toNat 0)))))):=by
  refine Q3 t7 Tryz.func11 (by kernel_rfl) ?_
  rw [F11_eq]
  unfold K11_0
  refine Ye (new55) ?_
  generalize hσ1:σ.push (.cells [.int .u64 0,.int .i64 0,.int .i64 0,.slice none 0 (.ex 0),.int .u64 0,.int .i64 0,.slice none 0 (.ex 0)] 31 true) = σ1
  have n1:σ1.next = σ.next + 1:=by rw [← hσ1]; rfl
  have e1:Gr σ σ1:=by rw [← hσ1]; exact Gr.push _ _
  have g1:σ1.get σ.next = some (.cells [.int .u64 0,.int .i64 0,.int .i64 0,.slice none 0 (.ex 0),.int .u64 0,.int .i64 0,.slice none 0 (.ex 0)] 31 true):=by rw [← hσ1,St.get_push,if_pos rfl]
  refine Xs rfl (V9 (n:=n) t1 t2 t3 t4 t5 hs (show (1:Int) < 9223372036854775808 by omega)) ?_
  refine V4 rfl (least_new (n:=n + 2) (u:=(Xa seed 1:Nat)) (most:=255) t6) fun v σ2 ⟨e2,hv⟩=>?_
  have bad0:∀ (l:List CV) (hl:l.length = 3) (er:Int),v = .tup [.agg l,I er]→True:=fun _ _ _ _=>trivial
  obtain ⟨l3,er,rfl,her,hl3⟩:∃ l3 er,v = .tup [.agg l3,I er]∧(!(er == 0)) = W6 rows cols 255∧l3.length = 3:=by
    rcases hv with ⟨hb,rfl⟩ | ⟨hb,cv,rfl,_⟩
    · exact ⟨_,_,rfl,by rw [hb]; rfl,rfl⟩
    · exact ⟨_,_,rfl,by rw [hb]; rfl,rfl⟩
  obtain ⟨y1,y2,y3,rfl⟩:∃ y1 y2 y3,l3 = [y1,y2,y3]:=by
    match l3,hl3 with
    | [a,b,c],_=>exact ⟨a,b,c,rfl⟩
  refine Qb (rfl) ?_
  refine Qb (rfl) ?_
  refine Ye (new53) ?_
  refine Yj (X1 (by rw [St.get_push,if_pos rfl]) rfl sz29 rfl rfl) ?_
  generalize hσ3:(σ2.push (.cells [.int .u64 0,.int .i64 0,.slice none 0 (.ex 0)] 29 true)).put σ2.next (.cells [y1,y2,y3] 29 true) = σ3
  have n3:σ3.next = σ2.next + 1:=by rw [← hσ3]; rfl
  have e3:Gr σ2 σ3:=by rw [← hσ3]; exact (Gr.push _ _).put _ (Nat.le_refl _)
  have g3:σ3.get σ2.next = some (.cells [y1,y2,y3] 29 true):=by rw [← hσ3,St.get_put,if_pos rfl]
  have e13:=(e1.trans e2).trans e3
  have g13:=(e3.2 σ.next (by have:=e2.1; omega)).trans ((e2.2 σ.next (by omega)).trans g1)
  refine Qb (o_neq) ?_
  rw [her]
  refine y_orl (y_org (y_orl (y_org (y_orl (y_org ?_)))))
  refine y_if (fun hb=>?_) (fun hb=>?_)
  · refine Qb (bld55z) ?_
    refine Yj (X1 g13 rfl sz31 rfl rfl) ?_
    refine Vs (Y7 (by rw [St.get_put,if_pos rfl]) rfl ag31 sz31 rfl) ⟨e13.put _ (Nat.le_refl _),.inl ⟨hb,rfl⟩⟩
  · have hb0:Y6 buckets room votes rows cols = false:=hb
    have hb':=hb0
    unfold Y6 at hb'
    simp only [Bool.or_eq_false_iff,decide_eq_false_iff_not] at hb'
    obtain ⟨⟨⟨⟨⟨⟨b0,b1⟩,b2⟩,b3⟩,b4⟩,b5⟩,b6⟩:=hb'
    rcases hv with ⟨hbad,_⟩ | ⟨_,rv,hv,hrv⟩
    · rw [b0] at hbad; cases hbad
    · injection hv with hv
      injection hv with hv1 hv2
      injection hv1 with hv1
      injection hv1 with q1 hv1
      injection hv1 with q2 hv1
      injection hv1 with q3 _
      subst q1 q2 q3
      obtain ⟨k,rfl⟩:∃ k:Nat,buckets = (k:Int):=⟨buckets.toNat,by omega⟩
      refine y_at ?_
      refine X0 ?_
      refine Nf (mksN un26 in87 zero215 rfl rfl (by omega) (by omega) (by decide)) ?_
      generalize hσ4:(σ3.gap 9).lay (Nat.add σ3.next 4) (.cells (Xj k [.slice none 0 (.ex 0),.int .i64 0]) 87 true) = σ4
      have n4:σ4.next = σ3.next + 9:=by rw [← hσ4]; rfl
      have e4:Gr σ3 σ4:=by rw [← hσ4]; exact (Gr.gap _ _).lay _ (by simp only [Nat.add_eq]; omega)
      have g4:=(e4.2 σ2.next (by omega)).trans g3
      have r4:σ4.get (Nat.add σ3.next 4) = some (.cells (Xj k [.slice none 0 (.ex 0),.int .i64 0]) 87 true):=by rw [← hσ4,St.get_lay,if_pos rfl]
      have g14:=(e4.2 σ.next (by have:=e2.1; omega)).trans g13
      have el:∀ σ',σ'.get σ2.next = some (.cells [.int .u64 (Xa seed 1:Nat),.int .i64 255,y3] 29 true)→ldO (C M) 29 (P σ2.next 0) σ' = .val (.agg [.int .u64 (Xa seed 1:Nat),.int .i64 255,y3]):=fun σ' h=>Xq h rfl (X2 ag29 sz29 rfl)
      have g3':(σ3.gap 9).get σ2.next = some (.cells [.int .u64 (Xa seed 1:Nat),.int .i64 255,y3] 29 true):=g3
      refine Vl rfl (el _ g4) (by rw [Yk (el _ g3') rfl]; rfl) ?_
      refine Qf (bld55) ?_
      refine X7 (X1 g14 rfl sz31 rfl rfl) ?_
      have e14:=e13.trans e4
      refine Vs (Y7 (by rw [St.get_put,if_pos rfl]) rfl ag31 sz31 rfl) ⟨e14.put _ (Nat.le_refl _),.inr ⟨hb0,_,_,rfl,?_,?_⟩⟩
      · refine rep_fill (by simp only [Nat.add_eq]; have:=e2.1; omega) (by rw [St.next_put]; simp only [Nat.add_eq]; omega) (by rw [St.get_put,if_neg (by simp only [Nat.add_eq]; have:=e2.1; omega)]; exact r4) rfl (.cons .nil (.cons (.flat rfl) .nil))
      · refine hrv.to fun i hi hlt=>⟨?_,by rw [St.next_put]; have:=e3.1; have:=e4.1; omega,by omega⟩
        rw [St.get_put,if_neg (by omega),e4.2 i (by have:=e3.1; omega),e3.2 i hlt]
end Core
end Go.Proofs.YtjfgdcegpgoobaaGreatDoor
namespace Go.Proofs.YtjfgdcegpgoobaaGreatDoor
open Go.Run Go
namespace Core
open Ty
set_option maxRecDepth 1000000
theorem bitsmul_run {n a b:Nat} {σ:St} {tab:Tab} (ht:tab 85 = none) (ht2:tab 87 = none) (ha:a < 18446744073709551616) (hb:b < 18446744073709551616) :
    Ql (C M) tab (n + 2) 87 [Iu (a:Nat),Iu (b:Nat)] σ = some (.tup [Iu ((a * b / 18446744073709551616:Nat):Int),Iu ((a * b % 18446744073709551616:Nat):Int)],σ):=by
  refine Xf ht2 Tryz.func87 (by kernel_rfl) ?_
  rw [F87_eq]
  refine Yl.eq ?_
  unfold K87_0
  refine Qx (rfl) ?_
  refine Xs rfl (mul64_run ht ha hb) ?_
  refine Qb (rfl) ?_
  refine Qb (rfl) ?_
  exact y_ret2 ⟨rfl,rfl⟩
theorem repN_add {α:Type} (z:List α):∀ a b,Xj a z ++ Xj b z = Xj (a + b) z
  | 0,b=>by rw [Nat.zero_add]; rfl
  | a + 1,b=>by
    show (z ++ Xj a z) ++ Xj b z = _
    rw [List.append_assoc,repN_add z a b,show a + 1 + b = (a + b) + 1 by omega]; rfl
theorem repN_take {α:Type} (z:List α) {a b:Nat} (h:a≤b) (r:List α):(Xj b z ++ r).take (a * z.length) = Xj a z:=by
  have e:Xj b z = Xj a z ++ Xj (b - a) z:=by rw [repN_add]; congr 1; omega
  rw [e,List.append_assoc,← W1 z a,List.take_left]
theorem rep53_loop {call:Qd} {nb k sz:Nat} {z z0:List CV} (hu:und (C M) 94 = some (.slice 97)) (hs:size (C M) 97 = some (sz + 1)) (hz:z.length = sz + 1) (hz0:z0.length = sz + 1) (hk:k≤100000):∀ (fuel m:Nat) (σ:St),k - m < fuel→1≤m→m≤k→nb < σ.next →
    σ.get nb = some (.cells (Xj m z ++ Xj (k - m) z0) 97 true) →
    Yl (L39_8 M call fuel (.one (.slice (some (nb,0)) k (.to (sz + 1)))) (I (m:Nat)) σ) (fun v σ'=>v = .one (.slice (some (nb,0)) k (.to (sz + 1)))∧σ'.get nb = some (.cells (Xj k z) 97 true)∧σ'.next = σ.next∧∀ i,i ≠ nb→σ'.get i = σ.get i):=by
  intro fuel
  induction fuel with
  | zero=>intro m σ h; omega
  | succ fuel ih=>
    intro m σ hf h1 h2 hlt hg
    rw [L39_8_succ]
    unfold L39_8_b
    refine Qb (o_len hu) ?_
    refine Qb (V3) ?_
    by_cases hm:m < k
    · refine Xc (decide_eq_true (by omega)) ?_
      refine X0 ?_
      generalize hc:min (k - m) m = c
      have hc1:1≤c:=by omega
      have hc2:c≤m:=by omega
      have hc3:c≤k - m:=by omega
      have hsplit:Xj m z ++ Xj (k - m) z0 = Xj m z ++ (Xj c z0 ++ Xj (k - m - c) z0):=by rw [repN_add]; congr 2; omega
      have hlen:(Xj m z).length = 0 + m * (sz + 1):=by rw [W1,hz]; omega
      have htake:Yo (c * (sz + 1)) (Vm (0 + 0 * (sz + 1)) (Xj m z ++ Xj (k - m) z0)) = some (Xj c z):=by
        rw [Nat.zero_mul,Nat.add_zero,dropN_zero,Vb _ _ (by
          rw [List.length_append,W1,hz]
          have:c * (sz + 1)≤m * (sz + 1):=Nat.mul_le_mul_right _ hc2
          omega),← hz,repN_take z hc2]
      have hover:J7 (0 + m * (sz + 1)) (Xj c z) (Xj m z ++ Xj (k - m) z0) = some (Xj m z ++ (Xj c z ++ Xj (k - m - c) z0)):=by
        rw [hsplit,← hlen]
        exact over_app _ _ _ _ (by rw [W1,W1,hz,hz0])
      have hcopy:=o_copy (cx:=C M) (σ:=σ) (t:=94) (ts:=[94]) (b:=nb) (o:=0 + m * (sz + 1)) (n:=k - m) (b2:=nb) (o2:=0 + 0 * (sz + 1)) (n2:=m - 0) (m:=c) (c:=.to (sz + 1)) (c2:=.to (sz + 1)) hu hs (by omega) (by omega) hg rfl htake hg hover
      refine Qj (o_from hu hs h2) rfl ?_
      refine Qj (o_upto hu hs h2) rfl ?_
      refine X7 (hcopy) ?_
      refine Qf (o_add) ?_
      rw [Xw (by omega) (by omega)]
      have hres:Xj m z ++ (Xj c z ++ Xj (k - m - c) z0) = Xj (m + c) z ++ Xj (k - (m + c)) z0:=by
        rw [← List.append_assoc,repN_add]; congr 2; omega
      refine (ih (m + c) _ (by omega) (by omega) (by omega) (by rw [St.next_put]; exact hlt) (by rw [St.get_put,if_pos rfl,hres])).mono fun v σ' ⟨q1,q2,q3,q4⟩=>⟨q1,q2,by rw [q3,St.next_put],fun i hi=>by rw [q4 i hi,St.get_put,if_neg hi]⟩
    · have:m = k:=by omega
      subst this
      refine Qx (decide_eq_false (by omega)) ?_
      unfold K39_7
      refine Qs ⟨rfl,?_,rfl,fun _ _=>rfl⟩
      rw [hg,Nat.sub_self]
      show some (Blk.cells (Xj m z ++ []) _ _) = _
      rw [List.append_nil]
theorem rep53_run {n k sz xb by':Nat} {z z0:List CV} {σ:St} {tab:Tab} {blk:Blk} (t1:tab 85 = none) (t2:tab 87 = none) (t3:tab 39 = none) (hu:und (C M) 94 = some (.slice 97)) (hs:size (C M) 97 = some (sz + 1)) (hi:((C M).P.info? 97).map (fun t=>(t.size,t.bytes)) = some (sz + 1,by'))
    (hz0:zeroCells (C M) 97 = some z0) (hl0:z0.length = sz + 1) (hz:z.length = sz + 1) (hb:by'≤100000) (h1:1≤k) (hk:k≤100000) (hg:σ.get xb = some blk) (hr:Blk.rd (some blk) = some z) (hx:xb < σ.next) :
    Yl (Ql (C M) tab (n + 3) 39 [.one (.slice (some (xb,0)) 1 (.to (sz + 1))),I (k:Nat)] σ) (fun v σ'=>v = .one (.slice (some (σ.next,0)) k (.to (sz + 1)))∧Gr σ σ'∧σ.next < σ'.next∧σ'.get σ.next = some (.cells (Xj k z) 97 true)):=by
  refine Q3 t3 Tryz.func39 (by kernel_rfl) ?_
  rw [F39_eq]
  unfold K39_0 K39_1
  refine Qb (V3) ?_
  refine Qx (decide_eq_false (by omega)) ?_
  unfold K39_2
  refine Qb (o_len hu) ?_
  refine Qb (o_cv64 un3 un195 (by omega)) ?_
  refine Qb (o_cv64 un3 un195 (by omega)) ?_
  refine Xs rfl (bitsmul_run t1 t2 (by omega) (by omega)) ?_
  refine Qb (rfl) ?_
  refine Qb (rfl) ?_
  have e1:1 * k / 18446744073709551616 = 0:=by omega
  have e2:1 * k % 18446744073709551616 = k:=by omega
  rw [e1,e2]
  unfold K39_3
  refine Qb (ou_gtr (b:=0)) ?_
  rw [decide_eq_false (by omega)]
  refine Qz rfl (rfl) ?_
  refine Qz rfl (ou_gtr (b:=9223372036854775807)) ?_
  refine Qb (rfl) ?_
  refine Qx (decide_eq_false (by omega)) ?_
  unfold K39_4
  refine Qb (o_cvi un195 un3 (by omega)) ?_
  refine Ye (mksN hu hi hz0 hl0 rfl h1 hk hb) ?_
  generalize hσ1:σ.push (.cells (Xj k z0) 97 true) = σ1
  have n1:σ1.next = σ.next + 1:=by rw [← hσ1]; rfl
  have e1':Gr σ σ1:=by rw [← hσ1]; exact Gr.push _ _
  have g1:σ1.get σ.next = some (.cells (Xj k z0) 97 true):=by rw [← hσ1,St.get_push,if_pos rfl]
  have gx:=(e1'.2 xb hx).trans hg
  unfold K39_5
  obtain ⟨k',rfl⟩:∃ k',k = k' + 1:=⟨k - 1,by omega⟩
  have hover:J7 0 z (Xj (k' + 1) z0) = some (z ++ Xj k' z0):=Ji z z0 (Xj k' z0) (by rw [hz,hl0])
  have hcopy:=o_copy (cx:=C M) (σ:=σ1) (t:=94) (ts:=[94]) (b:=σ.next) (o:=0) (n:=k' + 1) (b2:=xb) (o2:=0) (n2:=1) (m:=1) (c:=.to (sz + 1)) (c2:=.to (sz + 1)) hu hs (by omega) (by omega) gx hr (by rw [dropN_zero]; exact takeN_len (by omega)) g1 hover
  refine Yj (hcopy) ?_
  unfold K39_6
  refine (rep53_loop hu hs hz hl0 hk M 1 _ (by unfold M; omega) (by omega) h1 (by rw [St.next_put]; omega) (by rw [St.get_put,if_pos rfl]; show some (Blk.cells (z ++ Xj k' z0) _ _) = some (Blk.cells ((z ++ []) ++ Xj (k' + 1 - 1) z0) _ _); rw [List.append_nil]; rfl)).mono fun v σ' ⟨q1,q2,q3,q4⟩=>⟨q1,?_,?_,q2⟩
  · refine ⟨by rw [q3,St.next_put]; omega,fun i hi=>?_⟩
    rw [q4 i (by omega),St.get_put,if_neg (by omega),e1'.2 i hi]
  · rw [q3,St.next_put]; omega
end Core
end Go.Proofs.YtjfgdcegpgoobaaGreatDoor
namespace Go.Proofs.YtjfgdcegpgoobaaGreatDoor
open Go.Run Go
namespace Core
open Ty
set_option maxRecDepth 1000000
def zeros37:List UInt8:=[0,0,0,0,0,0,0,0,0,0,0,0,0,0,0,0,0,0,0,0,0,0,0,0,0,0,0,0,0,0,0,0,0,0,0,0,0]
def cellZ:List CV:=[.str ⟨⟨zeros37⟩⟩,.int .i64 0,.int .i64 0,.int .i64 0]
def cell0:List DV:=[dS zeros37,dI 0,dI 0,dI 0]
def dCells (k:Nat):DV:=.sl 4 (List.replicate k cell0)
theorem zero146:zeroCells (C M) 97 = some [.str ⟨⟨[]⟩⟩,.int .i64 0,.int .i64 0,.int .i64 0]:=by kernel_rfl
theorem bld146 {σ:St}:Xp (C M) 97 [(0,S [0,0,0,0,0,0,0,0,0,0,0,0,0,0,0,0,0,0,0,0,0,0,0,0,0,0,0,0,0,0,0,0,0,0,0,0,0])] σ = .val (.agg cellZ):=by kernel_rfl
theorem bsl143 {σ:St}:Vi (C M) 94 1 [(0,.agg cellZ)] σ = .new (.cells cellZ 97 true) (fun i=>.one (.slice (some (i,0)) 1 (.to (3 + 1)))):=by kernel_rfl
theorem bsl59 {σ:St} {x k:Nat} {cap:Cap}:Vi (C M) 35 1 [(0,.one (.slice (some (x,0)) k cap))] σ = .new (.cells [.slice (some (x,0)) k cap] 94 true) (fun i=>.one (.slice (some (i,0)) 1 (.to (0 + 1)))):=by kernel_rfl
structure RadAt (σ:St) (a8 a10:Nat) (p:List CV) (k j:Nat) (cv:CV):Prop where
  lt8:a8 < a10
  lt10:a10 < σ.next
  g8:∃ l,σ.get a8 = some (.cells l 37 true)∧l.length = 5
  lp:p.length = 4
  g10:σ.get a10 = some (.cells (p ++ [cv]) 37 true)
  own:∃ l,Own (a10 + 1) σ 0 94 cv l∧l.length = j∧RepL (fun i=>¬ X5 cv i∧a10 < i) σ l (List.replicate j (dCells k))
theorem rad_it {n fuel a8 a10 k j:Nat} {rows:Int} {σ:St} {p:List CV} {cv:CV} {tab:Tab} {Q:AV→St→Prop} (t1:tab 85 = none) (t2:tab 87 = none) (t3:tab 39 = none) (h:RadAt σ a8 a10 p k j cv) (h1:1≤k) (h2:k≤256) (hj:j≤1000) (hr:(j:Int) < rows)
    (hk:∀ σ' cv',RadAt σ' a8 a10 p k (j + 1) cv'→(∀ i,i < a10→σ'.get i = σ.get i)→Yl (L13_7 M (Ql (C M) tab (n + 3)) fuel (I (k:Nat)) (P a8 0) (P a10 0) (I rows) (I ((j + 1:Nat):Int)) σ') Q) :
    Yl (L13_7 M (Ql (C M) tab (n + 3)) (fuel + 1) (I (k:Nat)) (P a8 0) (P a10 0) (I rows) (I (j:Nat)) σ) Q:=by
  obtain ⟨l8,l10,⟨c8,g8,g8'⟩,lp,g10,l,hown,hl,hrep⟩:=h
  obtain ⟨p1,p2,p3,p4,rfl⟩:∃ p1 p2 p3 p4,p = [p1,p2,p3,p4]:=by
    match p,lp with
    | [a,b,c,d],_=>exact ⟨a,b,c,d,rfl⟩
  rw [L13_7_succ]
  unfold L13_7_b
  refine Qb (V3) ?_
  unfold K13_8
  refine Xc (decide_eq_true hr) ?_
  unfold K13_9
  refine y_at ?_
  refine X0 ?_
  have hnot:∀ i,i < a10 + 1→¬ X5 cv i:=by
    rintro i hi ⟨n,c,rfl⟩
    rcases hown with ⟨h,_⟩ | ⟨k',n',h,hk',_⟩
    · cases h
    · cases h; omega
  have atlt:∀ i,X5 cv i→i < σ.next:=by
    rintro i ⟨n,c,rfl⟩
    rcases hown with ⟨h,_⟩ | ⟨k',n',h,_,hk',_⟩
    · cases h
    · cases h; exact hk'
  have G10:(σ.gap 10).get a10 = some (.cells [p1,p2,p3,p4,cv] 37 true):=g10
  refine Qf (bld146) ?_
  refine Nf (bsl143) ?_
  generalize hσ2:(σ.gap 10).lay (Nat.add σ.next 3) (.cells cellZ 97 true) = σ2
  have n2:σ2.next = σ.next + 10:=by rw [← hσ2]; rfl
  have old2:∀ i,i < σ.next→σ2.get i = σ.get i:=fun i hi=>by rw [← hσ2,St.get_lay,if_neg (by simp only [Nat.add_eq]; omega)]; rfl
  have x2:σ2.get (Nat.add σ.next 3) = some (.cells cellZ 97 true):=by rw [← hσ2,St.get_lay,if_pos rfl]
  refine y_dcyl rfl (rep53_run (n:=n) (sz:=3) (z:=cellZ) (k:=k) t1 t2 t3 un94 sz97 in97 zero146 rfl rfl (by decide) h1 (by omega) x2 rfl (by rw [n2]; simp only [Nat.add_eq]; omega)) fun v σ3 ⟨hv,e3,n3,r3⟩=>?_
  subst hv
  have G13:σ3.get a10 = some (.cells [p1,p2,p3,p4,cv] 37 true):=by rw [e3.2 a10 (by omega),old2 a10 l10]; exact g10
  have el:∀ σ',σ'.get a10 = some (.cells [p1,p2,p3,p4,cv] 37 true)→ldO (C M) 35 (P a10 (0 + 4)) σ' = .val (.one cv):=fun σ' h=>Xq h rfl (Qq ag35 rfl)
  refine Qf (fa37_2) ?_
  refine Vl rfl (el _ G13) (by rw [Yk (el _ G13) rfl,Yk (el _ G10) rfl]; rfl) ?_
  refine Nf (bsl59) ?_
  generalize hσ4:σ3.lay (Nat.add σ.next 6) (.cells [.slice (some (σ2.next,0)) k (.to (3 + 1))] 94 true) = σ4
  have n4:σ4.next = σ3.next:=by rw [← hσ4]; rfl
  have e31:=e3.1
  have g4:∀ i,i ≠ Nat.add σ.next 6→σ4.get i = σ3.get i:=fun i hi=>by rw [← hσ4,St.get_lay,if_neg hi]
  have old4:∀ i,i < σ.next→σ4.get i = σ.get i:=fun i hi=>by rw [g4 i (by simp only [Nat.add_eq]; omega),e3.2 i (by omega),old2 i hi]
  have x4:σ4.get (Nat.add σ.next 6) = some (.cells [.slice (some (σ2.next,0)) k (.to (3 + 1))] 94 true):=by rw [← hσ4,St.get_lay,if_pos rfl]
  have r4:σ4.get σ2.next = some (.cells (Xj k cellZ) 97 true):=by rw [g4 _ (by simp only [Nat.add_eq]; omega)]; exact r3
  have own4:Own (a10 + 1) σ4 0 94 cv l:=hown.to (by omega) fun i hi=>old4 i (atlt i hi)
  obtain ⟨cv',σ5,q1,q2,q3,q4,q5⟩:=Wr (t:=35) (cx:=C M) un35 in94 (by kernel_rfl) (by kernel_rfl) own4 (by omega) x4 rfl rfl (by omega) (by decide)
  have g10':σ5.get a10 = some (.cells [p1,p2,p3,p4,cv] 37 true):=by rw [q4 a10 (by omega) (hnot a10 (by omega)),old4 a10 l10]; exact g10
  refine X7 (q1) ?_
  refine Qf (fa37_2) ?_
  refine X7 (X1 g10' rfl sz35 rfl rfl) ?_
  unfold K13_10
  refine Qb (o_add) ?_
  rw [Xw (by omega) (by omega)]
  have np:∀ i,i < σ4.next→¬ X5 cv' i:=fun i hi hat=>by have:=q5 i hat; omega
  refine hk _ cv' ⟨l8,by rw [St.next_put]; omega,⟨c8,by rw [St.get_put,if_neg (by omega),q4 a8 (by omega) (hnot a8 (by omega)),old4 a8 (by omega)]; exact g8,g8'⟩,rfl,by rw [St.get_put,if_pos rfl]; rfl,_,q2.to (by rw [St.next_put]; omega) (fun i hi=>by rw [St.get_put,if_neg (fun e=>np i (by omega) hi)]),by rw [List.length_append,hl]; rfl,?_⟩ ?_
  · rw [List.replicate_succ']
    refine RepL.append ?_ (.cons ?_ .nil)
    · refine hrep.to fun i hi hlt=>⟨?_,by rw [St.next_put]; omega,np i (by omega),hi.2⟩
      rw [St.get_put,if_neg (by omega),q4 i (by omega) hi.1,old4 i hlt]
    · refine rep_fill (e:=97) (x:=true) (z:=cellZ) ⟨np _ (by omega),by omega⟩ (by rw [St.next_put]; omega) ?_ rfl (.cons (.flat rfl) (.cons (.flat rfl) (.cons (.flat rfl) (.cons (.flat rfl) .nil))))
      rw [St.get_put,if_neg (by omega),q4 _ (by omega) (fun hat=>by have:=atlt _ hat; omega)]
      exact r4
  · intro i hi
    rw [St.get_put,if_neg (by omega),q4 i (by omega) (hnot i (by omega)),old4 i (by omega)]
theorem rad_loop {n a8 a10 k rows:Nat} {p:List CV} {tab:Tab} {Q:AV→St→Prop} (t1:tab 85 = none) (t2:tab 87 = none) (t3:tab 39 = none) (h1:1≤k) (h2:k≤256) (hrows:rows≤1000):∀ (d j:Nat) (fuel:Nat) (σ:St) (cv:CV),j + d = rows→d < fuel→RadAt σ a8 a10 p k j cv →
    (∀ σ' cv',RadAt σ' a8 a10 p k rows cv'→(∀ i,i < a10→σ'.get i = σ.get i)→Yl (Jn M (Ql (C M) tab (n + 3)) (P a8 0) (P a10 0) σ') Q)→Yl (L13_7 M (Ql (C M) tab (n + 3)) fuel (I (k:Nat)) (P a8 0) (P a10 0) (I (rows:Nat)) (I (j:Nat)) σ) Q:=by
  intro d
  induction d with
  | zero=>
    intro j fuel σ cv hj hf h hk
    obtain ⟨f,rfl⟩:∃ f,fuel = f + 1:=⟨fuel - 1,by omega⟩
    have:j = rows:=by omega
    subst this
    rw [L13_7_succ]
    unfold L13_7_b
    refine Qb (V3) ?_
    unfold K13_8
    refine Qx (decide_eq_false (by omega)) ?_
    exact hk σ cv h fun _ _=>rfl
  | succ d ih=>
    intro j fuel σ cv hj hf h hk
    obtain ⟨f,rfl⟩:∃ f,fuel = f + 1:=⟨fuel - 1,by omega⟩
    refine rad_it t1 t2 t3 h h1 h2 (by omega) (by omega) fun σ' cv' h' hg=>?_
    exact ih (j + 1) f σ' cv' (by omega) (by omega) h' fun σ2 cv2 h2' hg2=>hk σ2 cv2 h2' fun i hi=>(hg2 i hi).trans (hg i hi)
theorem new61 {σ:St}:Xe (C M) 37 σ = .new (.cells [.int .u64 0,.int .u64 0,.int .i64 0,.slice none 0 (.ex 0),.slice none 0 (.ex 0)] 37 true) (fun a=>P a 0):=by kernel_rfl
theorem bld61 {σ:St} {u y1:Int} {y2:Int} {cv:CV}:Xp (C M) 37 [(0,Iu u),(1,.agg [.int .u64 y1,.int .i64 y2,cv])] σ = .val (.agg [.int .u64 u,.int .u64 y1,.int .i64 y2,cv,.slice none 0 (.ex 0)]):=by kernel_rfl
def radZ:List CV:=[.int .u64 0,.int .u64 0,.int .i64 0,.slice none 0 (.ex 0),.slice none 0 (.ex 0)]
theorem bld61z {σ:St}:Xp (C M) 37 [] σ = .val (.agg radZ):=by kernel_rfl
def radBad (bits h rows cols:Int):Bool:=(((Jq bits h || decide (rows < 1)) || decide (7 < rows)) || decide (cols < 1)) || decide (256 < cols)
theorem radar_new {n seed:Nat} {σ:St} {tab:Tab} {bits h rows cols:Int} (t1:tab 84 = none) (t2:tab 85 = none) (t3:tab 37 = none) (t4:tab 36 = none) (t5:tab 12 = none) (t6:tab 86 = none) (t7:tab 38 = none) (t8:tab 87 = none) (t9:tab 39 = none) (t10:tab 13 = none) (hs:seed < 18446744073709551616) :
    Yl (Ql (C M) tab (n + 4) 13 [Iu (seed:Nat),I bits,I h,I rows,I cols] σ) (fun v σ'=>Gr σ σ'∧((radBad bits h rows cols = true∧v = .tup [.agg radZ,I 1]) ∨
      (radBad bits h rows cols = false∧∃ fv rv,v = .tup [.agg [.int .u64 seed,.int .u64 (Xa seed 0:Nat),.int .i64 h,fv,rv],I 0]∧Rep (fun i=>σ.next≤i) σ' fv (Zk (List.replicate bits.toNat false)) ∧
        Rep (fun i=>σ.next≤i) σ' rv (.sl 1 (List.replicate rows.toNat [dCells cols.toNat]))))):=by
  refine Q3 t10 Tryz.func13 (by kernel_rfl) ?_
  rw [F13_eq]
  unfold K13_0
  refine Ye (new61) ?_
  generalize hσ1:σ.push (.cells [.int .u64 0,.int .u64 0,.int .i64 0,.slice none 0 (.ex 0),.slice none 0 (.ex 0)] 37 true) = σ1
  have n1:σ1.next = σ.next + 1:=by rw [← hσ1]; rfl
  have e1:Gr σ σ1:=by rw [← hσ1]; exact Gr.push _ _
  have g1:σ1.get σ.next = some (.cells radZ 37 true):=by rw [← hσ1,St.get_push,if_pos rfl]; rfl
  unfold K13_1
  refine Xs rfl (V9 (n:=n) t1 t2 t3 t4 t5 hs (show (0:Int) < 9223372036854775808 by omega)) ?_
  refine V4 rfl (bloom_new (n:=n + 1) (u:=(Xa seed 0:Nat)) t6 t7) fun v σ2 ⟨e2,hv⟩=>?_
  obtain ⟨l3,er,rfl,her,hl3⟩:∃ l3 er,v = .tup [.agg l3,I er]∧(!(er == 0)) = Jq bits h∧l3.length = 3:=by
    rcases hv with ⟨hb,rfl⟩ | ⟨hb,cv,rfl,_⟩
    · exact ⟨_,_,rfl,by rw [hb]; rfl,rfl⟩
    · exact ⟨_,_,rfl,by rw [hb]; rfl,rfl⟩
  obtain ⟨y1,y2,y3,rfl⟩:∃ y1 y2 y3,l3 = [y1,y2,y3]:=by
    match l3,hl3 with
    | [a,b,c],_=>exact ⟨a,b,c,rfl⟩
  refine Qb (rfl) ?_
  refine Qb (rfl) ?_
  refine Ye (new58) ?_
  refine Yj (X1 (by rw [St.get_push,if_pos rfl]) rfl sz34 rfl rfl) ?_
  generalize hσ3:(σ2.push (.cells [.int .u64 0,.int .i64 0,.slice none 0 (.ex 0)] 34 true)).put σ2.next (.cells [y1,y2,y3] 34 true) = σ3
  have n3:σ3.next = σ2.next + 1:=by rw [← hσ3]; rfl
  have e3:Gr σ2 σ3:=by rw [← hσ3]; exact (Gr.push _ _).put _ (Nat.le_refl _)
  have g3:σ3.get σ2.next = some (.cells [y1,y2,y3] 34 true):=by rw [← hσ3,St.get_put,if_pos rfl]
  have e13:=(e1.trans e2).trans e3
  have g13:=(e3.2 σ.next (by have:=e2.1; omega)).trans ((e2.2 σ.next (by omega)).trans g1)
  unfold K13_2
  refine Qb (o_neq) ?_
  rw [her]
  refine y_orl (y_org (y_orl (y_org ?_)))
  refine y_if (fun hb=>?_) (fun hb=>?_)
  · refine Qb (bld61z) ?_
    refine Yj (X1 g13 rfl sz37 rfl rfl) ?_
    refine Vs (Y7 (by rw [St.get_put,if_pos rfl]) rfl ag37 sz37 rfl) ⟨e13.put _ (Nat.le_refl _),.inl ⟨hb,rfl⟩⟩
  · have hb0:radBad bits h rows cols = false:=hb
    have hb':=hb0
    unfold radBad at hb'
    simp only [Bool.or_eq_false_iff,decide_eq_false_iff_not] at hb'
    obtain ⟨⟨⟨⟨b0,b1⟩,b2⟩,b3⟩,b4⟩:=hb'
    rcases hv with ⟨hbad,_⟩ | ⟨_,fv,hv,hfv⟩
    · rw [b0] at hbad; cases hbad
    · injection hv with hv
      injection hv with hv1 hv2
      injection hv1 with hv1
      injection hv1 with q1 hv1
      injection hv1 with q2 hv1
      injection hv1 with q3 _
      subst q1 q2 q3
      obtain ⟨r,rfl⟩:∃ r:Nat,rows = (r:Int):=⟨rows.toNat,by omega⟩
      obtain ⟨k,rfl⟩:∃ k:Nat,cols = (k:Int):=⟨cols.toNat,by omega⟩
      unfold K13_3
      refine Qb (Xq g3 rfl (X2 ag34 sz34 rfl)) ?_
      refine Qb (bld61) ?_
      refine Ye (new61) ?_
      refine Yj (X1 (by rw [St.get_push,if_pos rfl]) rfl sz37 rfl rfl) ?_
      generalize hσ4:(σ3.push (.cells [.int .u64 0,.int .u64 0,.int .i64 0,.slice none 0 (.ex 0),.slice none 0 (.ex 0)] 37 true)).put σ3.next (.cells [.int .u64 (seed:Nat),.int .u64 (Xa seed 0:Nat),.int .i64 h,y3,.slice none 0 (.ex 0)] 37 true) = σ4
      have n4:σ4.next = σ3.next + 1:=by rw [← hσ4]; rfl
      have e4:Gr σ3 σ4:=by rw [← hσ4]; exact (Gr.push _ _).put _ (Nat.le_refl _)
      have e21:=e2.1
      have hR:RadAt σ4 σ.next σ3.next [.int .u64 (seed:Nat),.int .u64 (Xa seed 0:Nat),.int .i64 h,y3] k 0 (.slice none 0 (.ex 0)):=
        ⟨by omega,by omega,⟨_,(e4.2 _ (by omega)).trans g13,rfl⟩,rfl,by rw [← hσ4,St.get_put,if_pos rfl]; rfl,[],Own.nil,rfl,.nil⟩
      unfold K13_4 K13_6
      refine rad_loop (n:=n) (rows:=r) t2 t8 t9 (by omega) (by omega) (by omega) r 0 M σ4 _ (by omega) (by unfold M; omega) hR fun σ5 cv h5 hg5=>?_
      obtain ⟨l8,l10,⟨c8,g8,g8'⟩,_,g10,l,hown,hl,hrep⟩:=h5
      have g10:σ5.get σ3.next = some (.cells [.int .u64 (seed:Nat),.int .u64 (Xa seed 0:Nat),.int .i64 h,y3,cv] 37 true):=g10
      unfold Jn
      refine Qb (Xq g10 rfl (X2 ag37 sz37 rfl)) ?_
      obtain ⟨x1,x2,x3,x4,x5,rfl⟩:∃ x1 x2 x3 x4 x5,c8 = [x1,x2,x3,x4,x5]:=by
        match c8,g8' with
        | [a,b,c,d,e],_=>exact ⟨a,b,c,d,e,rfl⟩
      refine Yj (X1 g8 rfl sz37 rfl rfl) ?_
      have hnot:∀ i,i < σ3.next + 1→¬ X5 cv i:=by
        rintro i hi ⟨n,c,rfl⟩
        rcases hown with ⟨h,_⟩ | ⟨k',n',h,hk',_⟩
        · cases h
        · cases h; omega
      refine Vs (Y7 (by rw [St.get_put,if_pos rfl]) rfl ag37 sz37 rfl) ⟨⟨by rw [St.next_put]; omega,fun i hi=>by rw [St.get_put,if_neg (by omega),hg5 i (by omega),e4.2 i (by omega),e13.2 i hi]⟩,.inr ⟨hb0,_,cv,rfl,?_,?_⟩⟩
      · refine hfv.to fun i hi hlt=>⟨?_,by rw [St.next_put]; omega,by omega⟩
        rw [St.get_put,if_neg (by omega),hg5 i (by omega),e4.2 i (by omega),e3.2 i hlt]
      · have hown':Own (σ3.next + 1) (σ5.put σ.next (.cells [.int .u64 (seed:Nat),.int .u64 (Xa seed 0:Nat),.int .i64 h,y3,cv] 37 true)) 0 94 cv l:=hown.to (by rw [St.next_put]; omega) fun i hi=>by rw [St.get_put,if_neg (fun e=>hnot i (by omega) hi)]
        have hrep':RepL (fun i=>σ.next≤i) (σ5.put σ.next (.cells [.int .u64 (seed:Nat),.int .u64 (Xa seed 0:Nat),.int .i64 h,y3,cv] 37 true)) l (List.replicate r (dCells k)):=
          hrep.to fun i hi hlt=>⟨by rw [St.get_put,if_neg (by have:=hi.2; omega)],by rw [St.next_put]; exact hlt,by have:=hi.2; omega⟩
        refine hown'.rep (es:=List.replicate r [dCells k]) (fun i hat=>Nat.le_of_not_lt fun hlt=>hnot i (by omega) hat) (fun x hx=>by rw [(List.mem_replicate.mp hx).2]; rfl) ?_
        rw [flat_rep]
        exact hrep'
end Core
end Go.Proofs.YtjfgdcegpgoobaaGreatDoor
namespace Go.Proofs.YtjfgdcegpgoobaaGreatDoor
open Go.Run Go
namespace Core
open Ty
set_option maxRecDepth 1000000
theorem rep56_loop {call:Qd} {nb k sz:Nat} {z z0:List CV} (hu:und (C M) 111 = some (.slice 117)) (hs:size (C M) 117 = some (sz + 1)) (hz:z.length = sz + 1) (hz0:z0.length = sz + 1) (hk:k≤100000):∀ (fuel m:Nat) (σ:St),k - m < fuel→1≤m→m≤k→nb < σ.next →
    σ.get nb = some (.cells (Xj m z ++ Xj (k - m) z0) 117 true) →
    Yl (L42_8 M call fuel (.one (.slice (some (nb,0)) k (.to (sz + 1)))) (I (m:Nat)) σ) (fun v σ'=>v = .one (.slice (some (nb,0)) k (.to (sz + 1)))∧σ'.get nb = some (.cells (Xj k z) 117 true)∧σ'.next = σ.next∧∀ i,i ≠ nb→σ'.get i = σ.get i):=by
  intro fuel
  induction fuel with
  | zero=>intro m σ h; omega
  | succ fuel ih=>
    intro m σ hf h1 h2 hlt hg
    rw [L42_8_succ]
    unfold L42_8_b
    refine Qb (o_len hu) ?_
    refine Qb (V3) ?_
    by_cases hm:m < k
    · refine Xc (decide_eq_true (by omega)) ?_
      refine X0 ?_
      generalize hc:min (k - m) m = c
      have hc1:1≤c:=by omega
      have hc2:c≤m:=by omega
      have hc3:c≤k - m:=by omega
      have hsplit:Xj m z ++ Xj (k - m) z0 = Xj m z ++ (Xj c z0 ++ Xj (k - m - c) z0):=by rw [repN_add]; congr 2; omega
      have hlen:(Xj m z).length = 0 + m * (sz + 1):=by rw [W1,hz]; omega
      have htake:Yo (c * (sz + 1)) (Vm (0 + 0 * (sz + 1)) (Xj m z ++ Xj (k - m) z0)) = some (Xj c z):=by
        rw [Nat.zero_mul,Nat.add_zero,dropN_zero,Vb _ _ (by
          rw [List.length_append,W1,hz]
          have:c * (sz + 1)≤m * (sz + 1):=Nat.mul_le_mul_right _ hc2
          omega),← hz,repN_take z hc2]
      have hover:J7 (0 + m * (sz + 1)) (Xj c z) (Xj m z ++ Xj (k - m) z0) = some (Xj m z ++ (Xj c z ++ Xj (k - m - c) z0)):=by
        rw [hsplit,← hlen]
        exact over_app _ _ _ _ (by rw [W1,W1,hz,hz0])
      have hcopy:=o_copy (cx:=C M) (σ:=σ) (t:=111) (ts:=[111]) (b:=nb) (o:=0 + m * (sz + 1)) (n:=k - m) (b2:=nb) (o2:=0 + 0 * (sz + 1)) (n2:=m - 0) (m:=c) (c:=.to (sz + 1)) (c2:=.to (sz + 1)) hu hs (by omega) (by omega) hg rfl htake hg hover
      refine Qj (o_from hu hs h2) rfl ?_
      refine Qj (o_upto hu hs h2) rfl ?_
      refine X7 (hcopy) ?_
      refine Qf (o_add) ?_
      rw [Xw (by omega) (by omega)]
      have hres:Xj m z ++ (Xj c z ++ Xj (k - m - c) z0) = Xj (m + c) z ++ Xj (k - (m + c)) z0:=by
        rw [← List.append_assoc,repN_add]; congr 2; omega
      refine (ih (m + c) _ (by omega) (by omega) (by omega) (by rw [St.next_put]; exact hlt) (by rw [St.get_put,if_pos rfl,hres])).mono fun v σ' ⟨q1,q2,q3,q4⟩=>⟨q1,q2,by rw [q3,St.next_put],fun i hi=>by rw [q4 i hi,St.get_put,if_neg hi]⟩
    · have:m = k:=by omega
      subst this
      refine Qx (decide_eq_false (by omega)) ?_
      unfold K42_7
      refine Qs ⟨rfl,?_,rfl,fun _ _=>rfl⟩
      rw [hg,Nat.sub_self]
      show some (Blk.cells (Xj m z ++ []) _ _) = _
      rw [List.append_nil]
theorem rep56_run {n k sz xb by':Nat} {z z0:List CV} {σ:St} {tab:Tab} {blk:Blk} (t1:tab 85 = none) (t2:tab 87 = none) (t3:tab 42 = none) (hu:und (C M) 111 = some (.slice 117)) (hs:size (C M) 117 = some (sz + 1)) (hi:((C M).P.info? 117).map (fun t=>(t.size,t.bytes)) = some (sz + 1,by'))
    (hz0:zeroCells (C M) 117 = some z0) (hl0:z0.length = sz + 1) (hz:z.length = sz + 1) (hb:by'≤100000) (h1:1≤k) (hk:k≤100000) (hg:σ.get xb = some blk) (hr:Blk.rd (some blk) = some z) (hx:xb < σ.next) :
    Yl (Ql (C M) tab (n + 3) 42 [.one (.slice (some (xb,0)) 1 (.to (sz + 1))),I (k:Nat)] σ) (fun v σ'=>v = .one (.slice (some (σ.next,0)) k (.to (sz + 1)))∧Gr σ σ'∧σ.next < σ'.next∧σ'.get σ.next = some (.cells (Xj k z) 117 true)):=by
  refine Q3 t3 Tryz.func42 (by kernel_rfl) ?_
  rw [F42_eq]
  unfold K42_0 K42_1
  refine Qb (V3) ?_
  refine Qx (decide_eq_false (by omega)) ?_
  unfold K42_2
  refine Qb (o_len hu) ?_
  refine Qb (o_cv64 un3 un195 (by omega)) ?_
  refine Qb (o_cv64 un3 un195 (by omega)) ?_
  refine Xs rfl (bitsmul_run t1 t2 (by omega) (by omega)) ?_
  refine Qb (rfl) ?_
  refine Qb (rfl) ?_
  have e1:1 * k / 18446744073709551616 = 0:=by omega
  have e2:1 * k % 18446744073709551616 = k:=by omega
  rw [e1,e2]
  unfold K42_3
  refine Qb (ou_gtr (b:=0)) ?_
  rw [decide_eq_false (by omega)]
  refine Qz rfl (rfl) ?_
  refine Qz rfl (ou_gtr (b:=9223372036854775807)) ?_
  refine Qb (rfl) ?_
  refine Qx (decide_eq_false (by omega)) ?_
  unfold K42_4
  refine Qb (o_cvi un195 un3 (by omega)) ?_
  refine Ye (mksN hu hi hz0 hl0 rfl h1 hk hb) ?_
  generalize hσ1:σ.push (.cells (Xj k z0) 117 true) = σ1
  have n1:σ1.next = σ.next + 1:=by rw [← hσ1]; rfl
  have e1':Gr σ σ1:=by rw [← hσ1]; exact Gr.push _ _
  have g1:σ1.get σ.next = some (.cells (Xj k z0) 117 true):=by rw [← hσ1,St.get_push,if_pos rfl]
  have gx:=(e1'.2 xb hx).trans hg
  unfold K42_5
  obtain ⟨k',rfl⟩:∃ k',k = k' + 1:=⟨k - 1,by omega⟩
  have hover:J7 0 z (Xj (k' + 1) z0) = some (z ++ Xj k' z0):=Ji z z0 (Xj k' z0) (by rw [hz,hl0])
  have hcopy:=o_copy (cx:=C M) (σ:=σ1) (t:=111) (ts:=[111]) (b:=σ.next) (o:=0) (n:=k' + 1) (b2:=xb) (o2:=0) (n2:=1) (m:=1) (c:=.to (sz + 1)) (c2:=.to (sz + 1)) hu hs (by omega) (by omega) gx hr (by rw [dropN_zero]; exact takeN_len (by omega)) g1 hover
  refine Yj (hcopy) ?_
  unfold K42_6
  refine (rep56_loop hu hs hz hl0 hk M 1 _ (by unfold M; omega) (by omega) h1 (by rw [St.next_put]; omega) (by rw [St.get_put,if_pos rfl]; show some (Blk.cells (z ++ Xj k' z0) _ _) = some (Blk.cells ((z ++ []) ++ Xj (k' + 1 - 1) z0) _ _); rw [List.append_nil]; rfl)).mono fun v σ' ⟨q1,q2,q3,q4⟩=>⟨q1,?_,?_,q2⟩
  · refine ⟨by rw [q3,St.next_put]; omega,fun i hi=>?_⟩
    rw [q4 i (by omega),St.get_put,if_neg (by omega),e1'.2 i hi]
  · rw [q3,St.next_put]; omega
end Core
end Go.Proofs.YtjfgdcegpgoobaaGreatDoor
namespace Go.Proofs.YtjfgdcegpgoobaaGreatDoor
open Go.Run Go
namespace Core
open Ty
set_option maxRecDepth 1000000
def level0 (seed rows cols i:Nat):List DV:=[.flat (.int .u64 (Xa seed (i + 1):Nat)),V1 (List.replicate rows (List.replicate cols 0)),.sl 2 []]
def Wa (seed rows cols j:Nat):List (List DV):=(List.range j).map (level0 seed rows cols)
theorem levelsD_succ (seed rows cols j:Nat):(Wa seed rows cols (j + 1)).flatten = (Wa seed rows cols j).flatten ++ level0 seed rows cols j:=by
  unfold Wa
  rw [List.range_succ,List.map_append,List.flatten_append]; simp
theorem new148' {σ:St}:Xe (C M) 100 σ = .new (.cells [.int .u64 0,.slice none 0 (.ex 0)] 100 true) (fun a=>P a 0):=by kernel_rfl
theorem bld153 {σ:St} {y1:Int} {cv:CV}:Xp (C M) 103 [(0,.agg [.int .u64 y1,cv])] σ = .val (.agg [.int .u64 y1,cv,.slice none 0 (.ex 0)]):=by kernel_rfl
theorem bsl62 {σ:St} {y1:Int} {cv w:CV}:Vi (C M) 38 1 [(0,.agg [.int .u64 y1,cv,w])] σ = .new (.cells [.int .u64 y1,cv,w] 103 true) (fun i=>.one (.slice (some (i,0)) 1 (.to (2 + 1)))):=by kernel_rfl
theorem bld64z {σ:St}:Xp (C M) 40 [] σ = .val (.agg [.int .u64 0,.int .i64 0,.slice none 0 (.ex 0)]):=by kernel_rfl
structure LvAt (σ:St) (a8 a10:Nat) (u m:Int) (seed rows cols j:Nat) (cv:CV):Prop where
  lt8:a8 < a10
  lt10:a10 < σ.next
  g8:∃ l,σ.get a8 = some (.cells l 40 true)∧l.length = 3
  g10:σ.get a10 = some (.cells [.int .u64 u,.int .i64 m,cv] 40 true)
  own:∃ l,Own (a10 + 1) σ 2 103 cv l∧l.length = j * 3∧RepL (fun i=>¬ X5 cv i∧a10 < i) σ l (Wa seed rows cols j).flatten
theorem lv_it {n fuel a8 a10 seed rows cols j:Nat} {levels:Int} {σ:St} {u m:Int} {cv:CV} {tab:Tab} {Q:AV→St→Prop} (t1:tab 84 = none) (t2:tab 85 = none) (t3:tab 37 = none) (t4:tab 36 = none) (t5:tab 12 = none) (t6:tab 40 = none) (hs:seed < 18446744073709551616)
    (h:LvAt σ a8 a10 u m seed rows cols j cv) (hj:j≤1000) (hr:(j:Int) < levels) (hok:Y5 (rows:Int) (cols:Int) = false)
    (hk:∀ σ' cv',LvAt σ' a8 a10 u m seed rows cols (j + 1) cv'→(∀ i,i < a10→σ'.get i = σ.get i)→Yl (L14_6 M (Ql (C M) tab (n + 3)) fuel (Iu (seed:Nat)) (I (rows:Nat)) (I (cols:Nat)) (P a8 0) (P a10 0) (I levels) (I ((j + 1:Nat):Int)) σ') Q) :
    Yl (L14_6 M (Ql (C M) tab (n + 3)) (fuel + 1) (Iu (seed:Nat)) (I (rows:Nat)) (I (cols:Nat)) (P a8 0) (P a10 0) (I levels) (I (j:Nat)) σ) Q:=by
  obtain ⟨l8,l10,⟨c8,g8,g8'⟩,g10,l,hown,hl,hrep⟩:=h
  rw [L14_6_succ]
  unfold L14_6_b
  refine Qb (V3) ?_
  unfold K14_7
  refine Xc (decide_eq_true hr) ?_
  unfold K14_8
  have hnot:∀ i,i < a10 + 1→¬ X5 cv i:=by
    rintro i hi ⟨n,c,rfl⟩
    rcases hown with ⟨h,_⟩ | ⟨k',n',h,hk',_⟩
    · cases h
    · cases h; omega
  have atlt:∀ i,X5 cv i→i < σ.next:=by
    rintro i ⟨n,c,rfl⟩
    rcases hown with ⟨h,_⟩ | ⟨k',n',h,_,hk',_⟩
    · cases h
    · cases h; exact hk'
  refine Qb (o_add) ?_
  rw [Xw (by omega) (by omega)]
  refine Xs rfl (V9 (n:=n) t1 t2 t3 t4 t5 hs (show (j:Int) + 1 < 9223372036854775808 by omega)) ?_
  rw [show ((j:Int) + 1).toNat = j + 1 by omega]
  refine V4 rfl (signed_new (n:=n + 2) (u:=(Xa seed (j + 1):Nat)) t6) fun v σ2 ⟨e2,hv⟩=>?_
  rcases hv with ⟨hbad,_⟩ | ⟨_,rv,rfl,hrv⟩
  · rw [hok] at hbad; cases hbad
  refine Qb (rfl) ?_
  refine Qb (rfl) ?_
  refine Ye (new148') ?_
  refine Yj (X1 (by rw [St.get_push,if_pos rfl]) rfl sz100 rfl rfl) ?_
  generalize hσ3:(σ2.push (.cells [.int .u64 0,.slice none 0 (.ex 0)] 100 true)).put σ2.next (.cells [.int .u64 (Xa seed (j + 1):Nat),rv] 100 true) = σ3
  have n3:σ3.next = σ2.next + 1:=by rw [← hσ3]; rfl
  have e3:Gr σ2 σ3:=by rw [← hσ3]; exact (Gr.push _ _).put _ (Nat.le_refl _)
  have g3:σ3.get σ2.next = some (.cells [.int .u64 (Xa seed (j + 1):Nat),rv] 100 true):=by rw [← hσ3,St.get_put,if_pos rfl]
  have e21:=e2.1
  have old3:∀ i,i < σ.next→σ3.get i = σ.get i:=fun i hi=>by rw [e3.2 i (by omega),e2.2 i hi]
  have g103:σ3.get a10 = some (.cells [.int .u64 u,.int .i64 m,cv] 40 true):=by rw [old3 a10 l10]; exact g10
  refine Qb (o_neq) ?_
  refine Qx (rfl) ?_
  refine Qb (fa40_2) ?_
  refine Qb (Xq g103 rfl (Qq ag38 rfl)) ?_
  refine Qb (Xq g3 rfl (X2 ag100 sz100 rfl)) ?_
  refine Qb (bld153) ?_
  refine Ye (bsl62) ?_
  generalize hσ4:σ3.push (.cells [.int .u64 (Xa seed (j + 1):Nat),rv,.slice none 0 (.ex 0)] 103 true) = σ4
  have n4:σ4.next = σ3.next + 1:=by rw [← hσ4]; rfl
  have e4:Gr σ3 σ4:=by rw [← hσ4]; exact Gr.push _ _
  have x4:σ4.get σ3.next = some (.cells [.int .u64 (Xa seed (j + 1):Nat),rv,.slice none 0 (.ex 0)] 103 true):=by rw [← hσ4,St.get_push,if_pos rfl]
  have old4:∀ i,i < σ.next→σ4.get i = σ.get i:=fun i hi=>by rw [e4.2 i (by omega),old3 i hi]
  have own4:Own (a10 + 1) σ4 2 103 cv l:=hown.to (by omega) fun i hi=>old4 i (atlt i hi)
  obtain ⟨cv',σ5,q1,q2,q3,q4,q5⟩:=Wr (t:=38) (cx:=C M) un38 in103 (by kernel_rfl) (by kernel_rfl) own4 (by omega) x4 rfl rfl (by omega) (by decide)
  have g10':σ5.get a10 = some (.cells [.int .u64 u,.int .i64 m,cv] 40 true):=by rw [q4 a10 (by omega) (hnot a10 (by omega)),old4 a10 l10]; exact g10
  refine Yj (q1) ?_
  refine Qb (fa40_2) ?_
  refine Yj (X1 g10' rfl sz38 rfl rfl) ?_
  unfold K14_9
  refine Qb (o_add) ?_
  rw [Xw (by omega) (by omega)]
  have np:∀ i,i < σ4.next→¬ X5 cv' i:=fun i hi hat=>by have:=q5 i hat; omega
  refine hk _ cv' ⟨l8,by rw [St.next_put]; omega,⟨c8,by rw [St.get_put,if_neg (by omega),q4 a8 (by omega) (hnot a8 (by omega)),old4 a8 (by omega)]; exact g8,g8'⟩,by rw [St.get_put,if_pos rfl],_,q2.to (by rw [St.next_put]; omega) (fun i hi=>by rw [St.get_put,if_neg (fun e=>np i (by omega) hi)]),by rw [List.length_append,hl]; simp; omega,?_⟩ ?_
  · rw [levelsD_succ]
    refine RepL.append ?_ (.cons (.flat rfl) (.cons ?_ (.cons .nil .nil)))
    · refine hrep.to fun i hi hlt=>⟨?_,by rw [St.next_put]; omega,np i (by omega),hi.2⟩
      rw [St.get_put,if_neg (by omega),q4 i (by omega) hi.1,old4 i hlt]
    · refine hrv.to fun i hi hlt=>⟨?_,by rw [St.next_put]; omega,np i (by omega),by omega⟩
      rw [St.get_put,if_neg (by omega),q4 i (by omega) (fun hat=>by have:=atlt i hat; omega),e4.2 i (by omega),e3.2 i hlt]
  · intro i hi
    rw [St.get_put,if_neg (by omega),q4 i (by omega) (hnot i (by omega)),old4 i (by omega)]
theorem lv_loop {n a8 a10 seed rows cols levels:Nat} {u m:Int} {tab:Tab} {Q:AV→St→Prop} (t1:tab 84 = none) (t2:tab 85 = none) (t3:tab 37 = none) (t4:tab 36 = none) (t5:tab 12 = none) (t6:tab 40 = none) (hs:seed < 18446744073709551616) (hok:Y5 (rows:Int) (cols:Int) = false) (hl:levels≤1000):∀ (d j:Nat) (fuel:Nat) (σ:St) (cv:CV),j + d = levels→d < fuel→LvAt σ a8 a10 u m seed rows cols j cv →
    (∀ σ' cv',LvAt σ' a8 a10 u m seed rows cols levels cv'→(∀ i,i < a10→σ'.get i = σ.get i)→Yl (Vq M (Ql (C M) tab (n + 3)) (P a8 0) (P a10 0) σ') Q)→Yl (L14_6 M (Ql (C M) tab (n + 3)) fuel (Iu (seed:Nat)) (I (rows:Nat)) (I (cols:Nat)) (P a8 0) (P a10 0) (I (levels:Nat)) (I (j:Nat)) σ) Q:=by
  intro d
  induction d with
  | zero=>
    intro j fuel σ cv hj hf h hk
    obtain ⟨f,rfl⟩:∃ f,fuel = f + 1:=⟨fuel - 1,by omega⟩
    have:j = levels:=by omega
    subst this
    rw [L14_6_succ]
    unfold L14_6_b
    refine Qb (V3) ?_
    unfold K14_7
    refine Qx (decide_eq_false (by omega)) ?_
    exact hk σ cv h fun _ _=>rfl
  | succ d ih=>
    intro j fuel σ cv hj hf h hk
    obtain ⟨f,rfl⟩:∃ f,fuel = f + 1:=⟨fuel - 1,by omega⟩
    refine lv_it t1 t2 t3 t4 t5 t6 hs h (by omega) (by omega) hok fun σ' cv' h' hg=>?_
    exact ih (j + 1) f σ' cv' (by omega) (by omega) h' fun σ2 cv2 h2' hg2=>hk σ2 cv2 h2' fun i hi=>(hg2 i hi).trans (hg i hi)
def univZ:List CV:=[.int .u64 0,.int .i64 0,.slice none 0 (.ex 0)]
theorem lv_bad {n fuel a8 a10 seed:Nat} {levels rows cols:Int} {σ:St} {tab:Tab} (t1:tab 84 = none) (t2:tab 85 = none) (t3:tab 37 = none) (t4:tab 36 = none) (t5:tab 12 = none) (t6:tab 40 = none) (hs:seed < 18446744073709551616)
    (l8:a8 < σ.next) (h8:∃ l,σ.get a8 = some (.cells l 40 true)∧l.length = 3) (hr:0 < levels) (hbad:Y5 rows cols = true) :
    Yl (L14_6 M (Ql (C M) tab (n + 3)) (fuel + 1) (Iu (seed:Nat)) (I rows) (I cols) (P a8 0) (P a10 0) (I levels) (I 0) σ) (fun v σ'=>v = .tup [.agg univZ,I 1]∧σ.next≤σ'.next∧∀ i,i < σ.next→i ≠ a8→σ'.get i = σ.get i):=by
  obtain ⟨c8,g8,g8'⟩:=h8
  obtain ⟨x1,x2,x3,rfl⟩:∃ x1 x2 x3,c8 = [x1,x2,x3]:=by
    match c8,g8' with
    | [a,b,c],_=>exact ⟨a,b,c,rfl⟩
  rw [L14_6_succ]
  unfold L14_6_b
  refine Qb (V3) ?_
  unfold K14_7
  refine Xc (decide_eq_true hr) ?_
  unfold K14_8 K14_10
  refine Qb (o_add) ?_
  rw [Xw (by omega) (by omega)]
  refine Xs rfl (V9 (n:=n) t1 t2 t3 t4 t5 hs (show (0:Int) + 1 < 9223372036854775808 by omega)) ?_
  refine V4 rfl (signed_new (n:=n + 2) (u:=(Xa seed 1:Nat)) t6) fun v σ2 ⟨e2,hv⟩=>?_
  rcases hv with ⟨_,rfl⟩ | ⟨hok,_⟩
  · refine Qb (rfl) ?_
    refine Qb (rfl) ?_
    refine Ye (new148') ?_
    refine Yj (X1 (by rw [St.get_push,if_pos rfl]) rfl sz100 rfl rfl) ?_
    generalize hσ3:(σ2.push (.cells [.int .u64 0,.slice none 0 (.ex 0)] 100 true)).put σ2.next (.cells [.int .u64 0,.slice none 0 (.ex 0)] 100 true) = σ3
    have n3:σ3.next = σ2.next + 1:=by rw [← hσ3]; rfl
    have e3:Gr σ2 σ3:=by rw [← hσ3]; exact (Gr.push _ _).put _ (Nat.le_refl _)
    have e21:=e2.1
    have old3:∀ i,i < σ.next→σ3.get i = σ.get i:=fun i hi=>by rw [e3.2 i (by omega),e2.2 i hi]
    refine Qb (o_neq) ?_
    refine Xc (rfl) ?_
    refine Qb (bld64z) ?_
    refine Yj (X1 ((old3 a8 l8).trans g8) rfl sz40 rfl rfl) ?_
    refine Vs (Y7 (by rw [St.get_put,if_pos rfl]) rfl ag40 sz40 rfl) ⟨rfl,by rw [St.next_put]; omega,fun i hi hne=>by rw [St.get_put,if_neg hne]; exact old3 i hi⟩
  · rw [hbad] at hok; cases hok
theorem new64 {σ:St}:Xe (C M) 40 σ = .new (.cells univZ 40 true) (fun a=>P a 0):=by kernel_rfl
theorem bld64 {σ:St} {u m:Int}:Xp (C M) 40 [(0,Iu u),(1,I m)] σ = .val (.agg [.int .u64 u,.int .i64 m,.slice none 0 (.ex 0)]):=by kernel_rfl
def Vp (levels rows cols room:Int):Bool:=(((decide (levels < 1) || decide (16 < levels)) || decide (room < 1)) || decide (64 < room)) || Y5 rows cols
theorem univ_new {n seed:Nat} {σ:St} {tab:Tab} {levels rows cols room:Int} (t1:tab 84 = none) (t2:tab 85 = none) (t3:tab 37 = none) (t4:tab 36 = none) (t5:tab 12 = none) (t6:tab 40 = none) (t7:tab 14 = none) (hs:seed < 18446744073709551616) :
    Yl (Ql (C M) tab (n + 4) 14 [Iu (seed:Nat),I levels,I rows,I cols,I room] σ) (fun v σ'=>Gr σ σ'∧((Vp levels rows cols room = true∧v = .tup [.agg univZ,I 1]) ∨
      (Vp levels rows cols room = false∧∃ lv,v = .tup [.agg [.int .u64 seed,.int .i64 room,lv],I 0]∧Rep (fun i=>σ.next≤i) σ' lv (.sl 3 (Wa seed rows.toNat cols.toNat levels.toNat))))):=by
  refine Q3 t7 Tryz.func14 (by kernel_rfl) ?_
  rw [F14_eq]
  unfold K14_0
  refine Ye (new64) ?_
  generalize hσ1:σ.push (.cells univZ 40 true) = σ1
  have n1:σ1.next = σ.next + 1:=by rw [← hσ1]; rfl
  have e1:Gr σ σ1:=by rw [← hσ1]; exact Gr.push _ _
  have g1:σ1.get σ.next = some (.cells univZ 40 true):=by rw [← hσ1,St.get_push,if_pos rfl]
  unfold K14_1
  refine Qb (V3) ?_
  refine y_org (y_orl (y_org ?_))
  refine y_if (fun hb=>?_) (fun hb=>?_)
  · have hb':Vp levels rows cols room = true:=by unfold Vp; rw [hb]; rfl
    refine Qb (bld64z) ?_
    refine Yj (X1 g1 rfl sz40 rfl rfl) ?_
    refine Vs (Y7 (by rw [St.get_put,if_pos rfl]) rfl ag40 sz40 rfl) ⟨e1.put _ (Nat.le_refl _),.inl ⟨hb',rfl⟩⟩
  · have hb':=hb
    simp only [Bool.or_eq_false_iff,decide_eq_false_iff_not] at hb'
    obtain ⟨⟨⟨b1,b2⟩,b3⟩,b4⟩:=hb'
    obtain ⟨lv,rfl⟩:∃ lv:Nat,levels = (lv:Int):=⟨levels.toNat,by omega⟩
    unfold K14_2
    refine Qb (bld64) ?_
    refine Ye (new64) ?_
    refine Yj (X1 (by rw [St.get_push,if_pos rfl]) rfl sz40 rfl rfl) ?_
    generalize hσ2:(σ1.push (.cells univZ 40 true)).put σ1.next (.cells [.int .u64 (seed:Nat),.int .i64 room,.slice none 0 (.ex 0)] 40 true) = σ2
    have n2:σ2.next = σ1.next + 1:=by rw [← hσ2]; rfl
    have e2:Gr σ1 σ2:=by rw [← hσ2]; exact (Gr.push _ _).put _ (Nat.le_refl _)
    unfold K14_3 K14_5
    cases hok:Y5 rows cols with
    | true=>
      have hb':Vp lv rows cols room = true:=by unfold Vp; rw [hok,Bool.or_true]
      refine Yl.mono (lv_bad (n:=n) (fuel:=999999) t1 t2 t3 t4 t5 t6 hs (by omega) ⟨_,(e2.2 _ (by omega)).trans g1,rfl⟩ (by omega) hok) fun v σ' ⟨hv,hn,hg⟩=>⟨⟨by omega,fun i hi=>by rw [hg i (by omega) (by omega),e2.2 i (by omega),e1.2 i hi]⟩,.inl ⟨hb',hv⟩⟩
    | false=>
      have hb0:Vp lv rows cols room = false:=by unfold Vp; rw [hok,Bool.or_false]; exact hb
      have hok':=hok
      unfold Y5 at hok'
      simp only [Bool.or_eq_false_iff,decide_eq_false_iff_not] at hok'
      obtain ⟨⟨⟨⟨s1,s2⟩,_⟩,s3⟩,s4⟩:=hok'
      obtain ⟨r,rfl⟩:∃ r:Nat,rows = (r:Int):=⟨rows.toNat,by omega⟩
      obtain ⟨k,rfl⟩:∃ k:Nat,cols = (k:Int):=⟨cols.toNat,by omega⟩
      have hR:LvAt σ2 σ.next σ1.next (seed:Nat) room seed r k 0 (.slice none 0 (.ex 0)):=
        ⟨by omega,by omega,⟨_,(e2.2 _ (by omega)).trans g1,rfl⟩,by rw [← hσ2,St.get_put,if_pos rfl],[],Own.nil,rfl,.nil⟩
      refine lv_loop (n:=n) t1 t2 t3 t4 t5 t6 hs hok (by omega) lv 0 M σ2 _ (by omega) (by unfold M; omega) hR fun σ3 cv h3 hg3=>?_
      obtain ⟨l8,l10,⟨c8,g8,g8'⟩,g10,l,hown,hl,hrep⟩:=h3
      unfold Vq
      refine Qb (Xq g10 rfl (X2 ag40 sz40 rfl)) ?_
      obtain ⟨x1,x2,x3,rfl⟩:∃ x1 x2 x3,c8 = [x1,x2,x3]:=by
        match c8,g8' with
        | [a,b,c],_=>exact ⟨a,b,c,rfl⟩
      refine Yj (X1 g8 rfl sz40 rfl rfl) ?_
      have hnot:∀ i,i < σ1.next + 1→¬ X5 cv i:=by
        rintro i hi ⟨n,c,rfl⟩
        rcases hown with ⟨h,_⟩ | ⟨k',n',h,hk',_⟩
        · cases h
        · cases h; omega
      refine Vs (Y7 (by rw [St.get_put,if_pos rfl]) rfl ag40 sz40 rfl) ⟨⟨by rw [St.next_put]; omega,fun i hi=>by rw [St.get_put,if_neg (by omega),hg3 i (by omega),e2.2 i (by omega),e1.2 i hi]⟩,.inr ⟨hb0,cv,rfl,?_⟩⟩
      have hown':Own (σ1.next + 1) (σ3.put σ.next (.cells [.int .u64 (seed:Nat),.int .i64 room,cv] 40 true)) 2 103 cv l:=hown.to (by rw [St.next_put]; omega) fun i hi=>by rw [St.get_put,if_neg (fun e=>hnot i (by omega) hi)]
      have hrep':RepL (fun i=>σ.next≤i) (σ3.put σ.next (.cells [.int .u64 (seed:Nat),.int .i64 room,cv] 40 true)) l (Wa seed r k lv).flatten:=
        hrep.to fun i hi hlt=>⟨by rw [St.get_put,if_neg (by have:=hi.2; omega)],by rw [St.next_put]; exact hlt,by have:=hi.2; omega⟩
      refine hown'.rep (fun i hat=>Nat.le_of_not_lt fun hlt=>hnot i (by omega) hat) (fun x hx=>?_) hrep'
      unfold Wa at hx
      obtain ⟨i,_,rfl⟩:=List.mem_map.mp hx
      rfl
end Core
end Go.Proofs.YtjfgdcegpgoobaaGreatDoor
namespace Go.Proofs.YtjfgdcegpgoobaaGreatDoor
open Go.Run Go
namespace Core
open Ty
set_option maxRecDepth 1000000
def spb0 (seed ml mb:Nat):List DV:=[.flat (.int .u64 (Xa seed 0:Nat)),Jp (List.replicate ml (List.replicate mb false)),dS [],dI (-1)]
def dBuckets (seed ml mb k:Nat):DV:=.sl 4 (List.replicate k (spb0 seed ml mb))
theorem zero162:zeroCells (C M) 117 = some [.int .u64 0,.slice none 0 (.ex 0),.str ⟨⟨[]⟩⟩,.int .i64 0]:=by kernel_rfl
abbrev spCell (u:Int) (bv:CV):List CV:=[.int .u64 u,bv,.str ⟨⟨[]⟩⟩,.int .i64 (-1)]
theorem bld162 {σ:St} {u:Int} {bv:CV}:Xp (C M) 117 [(0,.agg [.int .u64 u,bv]),(2,I (-1))] σ = .val (.agg (spCell u bv)):=by kernel_rfl
theorem bsl159 {σ:St} {u:Int} {bv:CV}:Vi (C M) 111 1 [(0,.agg (spCell u bv))] σ = .new (.cells (spCell u bv) 117 true) (fun i=>.one (.slice (some (i,0)) 1 (.to (3 + 1)))):=by kernel_rfl
theorem bsl65 {σ:St} {x k:Nat} {cap:Cap}:Vi (C M) 41 1 [(0,.one (.slice (some (x,0)) k cap))] σ = .new (.cells [.slice (some (x,0)) k cap] 111 true) (fun i=>.one (.slice (some (i,0)) 1 (.to (0 + 1)))):=by kernel_rfl
structure SpAt (σ:St) (a8 a12 a14:Nat) (seed ml mb k j:Nat) (bv cv:CV):Prop where
  lt8:a8 < a12
  lt12:a12 < a14
  lt14:a14 < σ.next
  g8:∃ l,σ.get a8 = some (.cells l 43 true)∧l.length = 2
  g12:σ.get a12 = some (.cells [.int .u64 (Xa seed 0:Nat),bv] 115 true)
  g14:σ.get a14 = some (.cells [.int .u64 seed,cv] 43 true)
  bit:Rep (fun i=>a8 < i∧i < a12) σ bv (Jp (List.replicate ml (List.replicate mb false)))
  own:∃ l,Own (a14 + 1) σ 0 111 cv l∧l.length = j∧RepL (fun i=>¬ X5 cv i∧a8 < i∧i ≠ a14) σ l (List.replicate j (dBuckets seed ml mb k))
theorem sp_it {n fuel a8 a12 a14 seed ml mb k j:Nat} {rows:Int} {σ:St} {bv cv:CV} {tab:Tab} {Q:AV→St→Prop} (t1:tab 85 = none) (t2:tab 87 = none) (t3:tab 42 = none) (h:SpAt σ a8 a12 a14 seed ml mb k j bv cv) (h1:1≤k) (h2:k≤256) (hj:j≤1000) (hr:(j:Int) < rows)
    (hk:∀ σ' cv',SpAt σ' a8 a12 a14 seed ml mb k (j + 1) bv cv'→(∀ i,i < a14→σ'.get i = σ.get i)→Yl (L15_7 M (Ql (C M) tab (n + 3)) fuel (I (k:Nat)) (P a8 0) (P a12 0) (P a14 0) (I rows) (I ((j + 1:Nat):Int)) σ') Q) :
    Yl (L15_7 M (Ql (C M) tab (n + 3)) (fuel + 1) (I (k:Nat)) (P a8 0) (P a12 0) (P a14 0) (I rows) (I (j:Nat)) σ) Q:=by
  obtain ⟨l8,l12,l14,⟨c8,g8,g8'⟩,g12,g14,hbit,l,hown,hl,hrep⟩:=h
  rw [L15_7_succ]
  unfold L15_7_b
  refine Qb (V3) ?_
  unfold K15_8
  refine Xc (decide_eq_true hr) ?_
  unfold K15_9
  refine y_at ?_
  refine X0 ?_
  have hnot:∀ i,i < a14 + 1→¬ X5 cv i:=by
    rintro i hi ⟨n,c,rfl⟩
    rcases hown with ⟨h,_⟩ | ⟨k',n',h,hk',_⟩
    · cases h
    · cases h; omega
  have atlt:∀ i,X5 cv i→i < σ.next:=by
    rintro i ⟨n,c,rfl⟩
    rcases hown with ⟨h,_⟩ | ⟨k',n',h,_,hk',_⟩
    · cases h
    · cases h; exact hk'
  have isl:∃ p n c,bv = .slice p n c:=by
    obtain ⟨p,c,h⟩:=hbit.len
    exact ⟨_,_,_,h⟩
  have hokv:okV (.agg [.int .u64 (Xa seed 0:Nat),bv]) = true:=by obtain ⟨p,n,c,rfl⟩:=isl; rfl
  have G14:(σ.gap 11).get a14 = some (.cells [.int .u64 seed,cv] 43 true):=g14
  have G12:(σ.gap 11).get a12 = some (.cells [.int .u64 (Xa seed 0:Nat),bv] 115 true):=g12
  refine Qj (Xq G12 rfl (X2 ag115 sz115 rfl)) hokv ?_
  refine Qf (bld162) ?_
  refine Nf (bsl159) ?_
  generalize hσ2:(σ.gap 11).lay (Nat.add σ.next 4) (.cells (spCell (Xa seed 0:Nat) bv) 117 true) = σ2
  have n2:σ2.next = σ.next + 11:=by rw [← hσ2]; rfl
  have old2:∀ i,i < σ.next→σ2.get i = σ.get i:=fun i hi=>by rw [← hσ2,St.get_lay,if_neg (by simp only [Nat.add_eq]; omega)]; rfl
  have x2:σ2.get (Nat.add σ.next 4) = some (.cells (spCell (Xa seed 0:Nat) bv) 117 true):=by rw [← hσ2,St.get_lay,if_pos rfl]
  refine y_dcyl rfl (rep56_run (n:=n) (sz:=3) (z:=spCell (Xa seed 0:Nat) bv) (k:=k) t1 t2 t3 un111 sz117 in117 zero162 rfl rfl (by decide) h1 (by omega) x2 rfl (by rw [n2]; simp only [Nat.add_eq]; omega)) fun v σ3 ⟨hv,e3,n3,r3⟩=>?_
  subst hv
  have G13:σ3.get a14 = some (.cells [.int .u64 seed,cv] 43 true):=by rw [e3.2 a14 (by omega),old2 a14 l14]; exact g14
  have el:∀ σ',σ'.get a14 = some (.cells [.int .u64 seed,cv] 43 true)→ldO (C M) 41 (P a14 (0 + 1)) σ' = .val (.one cv):=fun σ' h=>Xq h rfl (Qq ag41 rfl)
  refine Qf (Ws) ?_
  refine Vl rfl (el _ G13) (by rw [Yk (el _ G13) rfl,Yk (el _ G14) rfl]; rfl) ?_
  refine Nf (bsl65) ?_
  generalize hσ4:σ3.lay (Nat.add σ.next 7) (.cells [.slice (some (σ2.next,0)) k (.to (3 + 1))] 111 true) = σ4
  have n4:σ4.next = σ3.next:=by rw [← hσ4]; rfl
  have e31:=e3.1
  have g4:∀ i,i ≠ Nat.add σ.next 7→σ4.get i = σ3.get i:=fun i hi=>by rw [← hσ4,St.get_lay,if_neg hi]
  have old4:∀ i,i < σ.next→σ4.get i = σ.get i:=fun i hi=>by rw [g4 i (by simp only [Nat.add_eq]; omega),e3.2 i (by omega),old2 i hi]
  have x4:σ4.get (Nat.add σ.next 7) = some (.cells [.slice (some (σ2.next,0)) k (.to (3 + 1))] 111 true):=by rw [← hσ4,St.get_lay,if_pos rfl]
  have r4:σ4.get σ2.next = some (.cells (Xj k (spCell (Xa seed 0:Nat) bv)) 117 true):=by rw [g4 _ (by simp only [Nat.add_eq]; omega)]; exact r3
  have own4:Own (a14 + 1) σ4 0 111 cv l:=hown.to (by omega) fun i hi=>old4 i (atlt i hi)
  obtain ⟨cv',σ5,q1,q2,q3,q4,q5⟩:=Wr (t:=41) (cx:=C M) un41 in111 (by kernel_rfl) (by kernel_rfl) own4 (by omega) x4 rfl rfl (by omega) (by decide)
  have old5:∀ i,i < σ.next→¬ X5 cv i→σ5.get i = σ.get i:=fun i hi hn=>by rw [q4 i (by omega) hn,old4 i hi]
  have g14':σ5.get a14 = some (.cells [.int .u64 seed,cv] 43 true):=by rw [old5 a14 l14 (hnot a14 (by omega))]; exact g14
  refine X7 (q1) ?_
  refine Qf (Ws) ?_
  refine X7 (X1 g14' rfl sz41 rfl rfl) ?_
  unfold K15_10
  refine Qb (o_add) ?_
  rw [Xw (by omega) (by omega)]
  have np:∀ i,i < σ4.next→¬ X5 cv' i:=fun i hi hat=>by have:=q5 i hat; omega
  have frm:∀ i,i < a14→(σ5.put a14 (.cells [.int .u64 seed,cv'] 43 true)).get i = σ.get i:=fun i hi=>by rw [St.get_put,if_neg (by omega),old5 i (by omega) (hnot i (by omega))]
  have hbit':Rep (fun i=>a8 < i∧i < a12) (σ5.put a14 (.cells [.int .u64 seed,cv'] 43 true)) bv (Jp (List.replicate ml (List.replicate mb false))):=
    hbit.to fun i hi hlt=>⟨frm i (by omega),by rw [St.next_put]; omega,hi⟩
  refine hk _ cv' ⟨l8,l12,by rw [St.next_put]; omega,⟨c8,by rw [frm a8 (by omega)]; exact g8,g8'⟩,by rw [frm a12 (by omega)]; exact g12,by rw [St.get_put,if_pos rfl],hbit',_,q2.to (by rw [St.next_put]; omega) (fun i hi=>by rw [St.get_put,if_neg (fun e=>np i (by omega) hi)]),by rw [List.length_append,hl]; rfl,?_⟩ frm
  rw [List.replicate_succ']
  refine RepL.append ?_ (.cons ?_ .nil)
  · refine hrep.to fun i hi hlt=>⟨?_,by rw [St.next_put]; omega,np i (by omega),hi.2⟩
    rw [St.get_put,if_neg hi.2.2,old5 i hlt hi.1]
  · refine rep_fill (e:=117) (x:=true) (z:=spCell (Xa seed 0:Nat) bv) ⟨np _ (by omega),by omega,by omega⟩ (by rw [St.next_put]; omega) ?_ rfl (.cons (.flat rfl) (.cons ?_ (.cons (.flat rfl) (.cons (.flat rfl) .nil))))
    · rw [St.get_put,if_neg (by omega),q4 _ (by omega) (fun hat=>by have:=atlt _ hat; omega)]
      exact r4
    · exact hbit'.to fun i hi hlt=>⟨rfl,hlt,np i (by omega),by omega,by omega⟩
theorem sp_loop {n a8 a12 a14 seed ml mb k rows:Nat} {bv:CV} {tab:Tab} {Q:AV→St→Prop} (t1:tab 85 = none) (t2:tab 87 = none) (t3:tab 42 = none) (h1:1≤k) (h2:k≤256) (hrows:rows≤1000):∀ (d j:Nat) (fuel:Nat) (σ:St) (cv:CV),j + d = rows→d < fuel→SpAt σ a8 a12 a14 seed ml mb k j bv cv →
    (∀ σ' cv',SpAt σ' a8 a12 a14 seed ml mb k rows bv cv'→(∀ i,i < a14→σ'.get i = σ.get i)→Yl (Jo M (Ql (C M) tab (n + 3)) (P a8 0) (P a14 0) σ') Q)→Yl (L15_7 M (Ql (C M) tab (n + 3)) fuel (I (k:Nat)) (P a8 0) (P a12 0) (P a14 0) (I (rows:Nat)) (I (j:Nat)) σ) Q:=by
  intro d
  induction d with
  | zero=>
    intro j fuel σ cv hj hf h hk
    obtain ⟨f,rfl⟩:∃ f,fuel = f + 1:=⟨fuel - 1,by omega⟩
    have:j = rows:=by omega
    subst this
    rw [L15_7_succ]
    unfold L15_7_b
    refine Qb (V3) ?_
    unfold K15_8
    refine Qx (decide_eq_false (by omega)) ?_
    exact hk σ cv h fun _ _=>rfl
  | succ d ih=>
    intro j fuel σ cv hj hf h hk
    obtain ⟨f,rfl⟩:∃ f,fuel = f + 1:=⟨fuel - 1,by omega⟩
    refine sp_it t1 t2 t3 h h1 h2 (by omega) (by omega) fun σ' cv' h' hg=>?_
    exact ih (j + 1) f σ' cv' (by omega) (by omega) h' fun σ2 cv2 h2' hg2=>hk σ2 cv2 h2' fun i hi=>(hg2 i hi).trans (hg i hi)
def spZ:List CV:=[.int .u64 0,.slice none 0 (.ex 0)]
theorem new67 {σ:St}:Xe (C M) 43 σ = .new (.cells spZ 43 true) (fun a=>P a 0):=by kernel_rfl
theorem bld67 {σ:St} {u:Int}:Xp (C M) 43 [(0,Iu u)] σ = .val (.agg [.int .u64 u,.slice none 0 (.ex 0)]):=by kernel_rfl
theorem bld67z {σ:St}:Xp (C M) 43 [] σ = .val (.agg spZ):=by kernel_rfl
def Ve (rows cols ml mb:Int):Bool:=(((V7 ml mb || decide (rows < 1)) || decide (7 < rows)) || decide (cols < 1)) || decide (256 < cols)
theorem spread_new {n seed:Nat} {σ:St} {tab:Tab} {rows cols ml mb:Int} (t1:tab 84 = none) (t2:tab 85 = none) (t3:tab 37 = none) (t4:tab 36 = none) (t5:tab 12 = none) (t6:tab 41 = none) (t7:tab 87 = none) (t8:tab 42 = none) (t9:tab 15 = none) (hs:seed < 18446744073709551616) :
    Yl (Ql (C M) tab (n + 4) 15 [Iu (seed:Nat),I rows,I cols,I ml,I mb] σ) (fun v σ'=>Gr σ σ'∧((Ve rows cols ml mb = true∧v = .tup [.agg spZ,I 1]) ∨
      (Ve rows cols ml mb = false∧∃ rv,v = .tup [.agg [.int .u64 seed,rv],I 0] ∧
        Rep (fun i=>σ.next≤i) σ' rv (.sl 1 (List.replicate rows.toNat [dBuckets seed ml.toNat mb.toNat cols.toNat]))))):=by
  refine Q3 t9 Tryz.func15 (by kernel_rfl) ?_
  rw [F15_eq]
  unfold K15_0
  refine Ye (new67) ?_
  generalize hσ1:σ.push (.cells spZ 43 true) = σ1
  have n1:σ1.next = σ.next + 1:=by rw [← hσ1]; rfl
  have e1:Gr σ σ1:=by rw [← hσ1]; exact Gr.push _ _
  have g1:σ1.get σ.next = some (.cells spZ 43 true):=by rw [← hσ1,St.get_push,if_pos rfl]
  unfold K15_1
  refine Xs rfl (V9 (n:=n) t1 t2 t3 t4 t5 hs (show (0:Int) < 9223372036854775808 by omega)) ?_
  refine V4 rfl (bitmap_new (n:=n + 2) (u:=(Xa seed 0:Nat)) t6) fun v σ2 ⟨e2,hv⟩=>?_
  obtain ⟨l2,er,rfl,her,hl2⟩:∃ l2 er,v = .tup [.agg l2,I er]∧(!(er == 0)) = V7 ml mb∧l2.length = 2:=by
    rcases hv with ⟨hb,rfl⟩ | ⟨hb,cv,rfl,_⟩
    · exact ⟨_,_,rfl,by rw [hb]; rfl,rfl⟩
    · exact ⟨_,_,rfl,by rw [hb]; rfl,rfl⟩
  obtain ⟨y1,y2,rfl⟩:∃ y1 y2,l2 = [y1,y2]:=by
    match l2,hl2 with
    | [a,b],_=>exact ⟨a,b,rfl⟩
  refine Qb (rfl) ?_
  refine Qb (rfl) ?_
  refine Ye (new156) ?_
  refine Yj (X1 (by rw [St.get_push,if_pos rfl]) rfl sz115 rfl rfl) ?_
  generalize hσ3:(σ2.push (.cells [.int .u64 0,.slice none 0 (.ex 0)] 115 true)).put σ2.next (.cells [y1,y2] 115 true) = σ3
  have n3:σ3.next = σ2.next + 1:=by rw [← hσ3]; rfl
  have e3:Gr σ2 σ3:=by rw [← hσ3]; exact (Gr.push _ _).put _ (Nat.le_refl _)
  have g3:σ3.get σ2.next = some (.cells [y1,y2] 115 true):=by rw [← hσ3,St.get_put,if_pos rfl]
  have e13:=(e1.trans e2).trans e3
  have g13:=(e3.2 σ.next (by have:=e2.1; omega)).trans ((e2.2 σ.next (by omega)).trans g1)
  unfold K15_2
  refine Qb (o_neq) ?_
  rw [her]
  refine y_orl (y_org (y_orl (y_org ?_)))
  refine y_if (fun hb=>?_) (fun hb=>?_)
  · refine Qb (bld67z) ?_
    refine Yj (X1 g13 rfl sz43 rfl rfl) ?_
    refine Vs (Y7 (by rw [St.get_put,if_pos rfl]) rfl ag43 sz43 rfl) ⟨e13.put _ (Nat.le_refl _),.inl ⟨hb,rfl⟩⟩
  · have hb0:Ve rows cols ml mb = false:=hb
    have hb':=hb0
    unfold Ve at hb'
    simp only [Bool.or_eq_false_iff,decide_eq_false_iff_not] at hb'
    obtain ⟨⟨⟨⟨b0,b1⟩,b2⟩,b3⟩,b4⟩:=hb'
    rcases hv with ⟨hbad,_⟩ | ⟨_,fv,hv,hfv⟩
    · rw [b0] at hbad; cases hbad
    · injection hv with hv
      injection hv with hv1 hv2
      injection hv1 with hv1
      injection hv1 with q1 hv1
      injection hv1 with q2 _
      subst q1 q2
      obtain ⟨r,rfl⟩:∃ r:Nat,rows = (r:Int):=⟨rows.toNat,by omega⟩
      obtain ⟨k,rfl⟩:∃ k:Nat,cols = (k:Int):=⟨cols.toNat,by omega⟩
      unfold K15_3
      refine Qb (bld67) ?_
      refine Ye (new67) ?_
      refine Yj (X1 (by rw [St.get_push,if_pos rfl]) rfl sz43 rfl rfl) ?_
      generalize hσ4:(σ3.push (.cells spZ 43 true)).put σ3.next (.cells [.int .u64 (seed:Nat),.slice none 0 (.ex 0)] 43 true) = σ4
      have n4:σ4.next = σ3.next + 1:=by rw [← hσ4]; rfl
      have e4:Gr σ3 σ4:=by rw [← hσ4]; exact (Gr.push _ _).put _ (Nat.le_refl _)
      have e21:=e2.1
      have hbit:Rep (fun i=>σ.next < i∧i < σ2.next) σ4 y2 (Jp (List.replicate ml.toNat (List.replicate mb.toNat false))):=
        hfv.to fun i hi hlt=>⟨by rw [e4.2 i (by omega),e3.2 i hlt],by omega,by omega,hlt⟩
      have hR:SpAt σ4 σ.next σ2.next σ3.next seed ml.toNat mb.toNat k 0 y2 (.slice none 0 (.ex 0)):=
        ⟨by omega,by omega,by omega,⟨_,(e4.2 _ (by omega)).trans g13,rfl⟩,(e4.2 _ (by omega)).trans g3,by rw [← hσ4,St.get_put,if_pos rfl],hbit,[],Own.nil,rfl,.nil⟩
      unfold K15_4 K15_6
      refine sp_loop (n:=n) (rows:=r) t2 t7 t8 (by omega) (by omega) (by omega) r 0 M σ4 _ (by omega) (by unfold M; omega) hR fun σ5 cv h5 hg5=>?_
      obtain ⟨l8,l12,l14,⟨c8,g8,g8'⟩,_,g14,_,l,hown,hl,hrep⟩:=h5
      unfold Jo
      refine Qb (Xq g14 rfl (X2 ag43 sz43 rfl)) ?_
      obtain ⟨x1,x2,rfl⟩:∃ x1 x2,c8 = [x1,x2]:=by
        match c8,g8' with
        | [a,b],_=>exact ⟨a,b,rfl⟩
      refine Yj (X1 g8 rfl sz43 rfl rfl) ?_
      have hnot:∀ i,i < σ3.next + 1→¬ X5 cv i:=by
        rintro i hi ⟨n,c,rfl⟩
        rcases hown with ⟨h,_⟩ | ⟨k',n',h,hk',_⟩
        · cases h
        · cases h; omega
      refine Vs (Y7 (by rw [St.get_put,if_pos rfl]) rfl ag43 sz43 rfl) ⟨⟨by rw [St.next_put]; omega,fun i hi=>by rw [St.get_put,if_neg (by omega),hg5 i (by omega),e4.2 i (by omega),e13.2 i hi]⟩,.inr ⟨hb0,cv,rfl,?_⟩⟩
      have hown':Own (σ3.next + 1) (σ5.put σ.next (.cells [.int .u64 (seed:Nat),cv] 43 true)) 0 111 cv l:=hown.to (by rw [St.next_put]; omega) fun i hi=>by rw [St.get_put,if_neg (fun e=>hnot i (by omega) hi)]
      have hrep':RepL (fun i=>σ.next≤i) (σ5.put σ.next (.cells [.int .u64 (seed:Nat),cv] 43 true)) l (List.replicate r (dBuckets seed ml.toNat mb.toNat k)):=
        hrep.to fun i hi hlt=>⟨by rw [St.get_put,if_neg (by have:=hi.2; omega)],by rw [St.next_put]; exact hlt,by have:=hi.2; omega⟩
      refine hown'.rep (es:=List.replicate r [dBuckets seed ml.toNat mb.toNat k]) (fun i hat=>Nat.le_of_not_lt fun hlt=>hnot i (by omega) hat) (fun x hx=>by rw [(List.mem_replicate.mp hx).2]; rfl) ?_
      rw [flat_rep]
      exact hrep'
end Core
end Go.Proofs.YtjfgdcegpgoobaaGreatDoor
namespace Go.Proofs.YtjfgdcegpgoobaaGreatDoor
open Go.Run Go
namespace Core
open Ty
set_option maxRecDepth 1000000
structure Cfg where
  seed:Nat
  (bk en vo lr lc fb fh rr rc lv sr sc tp xr xc ml mb:Int)
structure Ent where
  key:List UInt8
  votes:Int
  flag:Bool
structure Bkt where
  ents:List Ent
  against:Int
structure Els where
  seed:Nat
  room:Int
  votes:Int
  buckets:List Bkt
  lseed:Nat
  most:Int
  rows:List (List Int)
structure Cel where
  xor:List UInt8
  flows:Int
  packets:Int
  bytes:Int
structure Rad where
  seed:Nat
  fseed:Nat
  hashes:Int
  bits:List Bool
  rows:List (List Cel)
structure Itm where
  key:List UInt8
  count:Int
structure Lvl where
  seed:Nat
  rows:List (List Int)
  top:List Itm
structure Unv where
  seed:Nat
  room:Int
  levels:List Lvl
structure Spb where
  seed:Nat
  rows:List (List Bool)
  source:List UInt8
  level:Int
structure Spr where
  seed:Nat
  rows:List (List Spb)
structure Bnk where
  cfg:Cfg
  packets:Int
  bytes:Int
  rejects:List Int
  els:Els
  rad:Rad
  unv:Unv
  spr:Spr
abbrev Cfg.cells (c:Cfg):List CV:=[.int .u64 (c.seed:Nat),.int .i64 c.bk,.int .i64 c.en,.int .i64 c.vo,.int .i64 c.lr,.int .i64 c.lc,.int .i64 c.fb,.int .i64 c.fh,.int .i64 c.rr,.int .i64 c.rc,.int .i64 c.lv,.int .i64 c.sr,.int .i64 c.sc,.int .i64 c.tp,.int .i64 c.xr,.int .i64 c.xc,.int .i64 c.ml,.int .i64 c.mb]
abbrev Cfg.d (c:Cfg):List DV:=c.cells.map .flat
abbrev dW (n:Nat):DV:=.flat (.int .u64 (n:Int))
abbrev Ent.d (x:Ent):List DV:=[dS x.key,dI x.votes,dB x.flag]
abbrev Bkt.d (x:Bkt):List DV:=[.sl 3 (x.ents.map Ent.d),dI x.against]
abbrev Els.d (x:Els):List DV:=[dW x.seed,dI x.room,dI x.votes,.sl 2 (x.buckets.map Bkt.d),dW x.lseed,dI x.most,V1 x.rows]
abbrev Cel.d (x:Cel):List DV:=[dS x.xor,dI x.flows,dI x.packets,dI x.bytes]
abbrev Rad.d (x:Rad):List DV:=[dW x.seed,dW x.fseed,dI x.hashes,Zk x.bits,.sl 1 (x.rows.map fun r=>[.sl 4 (r.map Cel.d)])]
abbrev Itm.d (x:Itm):List DV:=[dS x.key,dI x.count]
abbrev Lvl.d (x:Lvl):List DV:=[dW x.seed,V1 x.rows,.sl 2 (x.top.map Itm.d)]
abbrev Unv.d (x:Unv):List DV:=[dW x.seed,dI x.room,.sl 3 (x.levels.map Lvl.d)]
abbrev Spb.d (x:Spb):List DV:=[dW x.seed,Jp x.rows,dS x.source,dI x.level]
abbrev Spr.d (x:Spr):List DV:=[dW x.seed,.sl 1 (x.rows.map fun r=>[.sl 4 (r.map Spb.d)])]
def Bnk.d (b:Bnk):List DV:=b.cfg.d ++ [dI b.packets,dI b.bytes,Ww b.rejects] ++ b.els.d ++ b.rad.d ++ b.unv.d ++ b.spr.d
def newEls (seed:Nat) (c:Cfg):Els:=⟨seed,c.en,c.vo,List.replicate c.bk.toNat ⟨[],0⟩,Xa seed 1,255,List.replicate c.lr.toNat (List.replicate c.lc.toNat 0)⟩
def newRad (seed:Nat) (c:Cfg):Rad:=⟨seed,Xa seed 0,c.fh,List.replicate c.fb.toNat false,List.replicate c.rr.toNat (List.replicate c.rc.toNat ⟨zeros37,0,0,0⟩)⟩
def newUnv (seed:Nat) (c:Cfg):Unv:=⟨seed,c.tp,(List.range c.lv.toNat).map fun j=>⟨Xa seed (j + 1),List.replicate c.sr.toNat (List.replicate c.sc.toNat 0),[]⟩⟩
def newSpr (seed:Nat) (c:Cfg):Spr:=⟨seed,List.replicate c.xr.toNat (List.replicate c.xc.toNat ⟨Xa seed 0,List.replicate c.ml.toNat (List.replicate c.mb.toNat false),[],-1⟩)⟩
def newB (c:Cfg):Bnk:=⟨c,0,0,List.replicate 18 0,newEls (Xa c.seed 30) c,newRad (Xa c.seed 31) c,newUnv (Xa c.seed 32) c,newSpr (Xa c.seed 33) c⟩
theorem newEls_d (seed:Nat) (c:Cfg):(newEls seed c).d = [dW seed,dI c.en,dI c.vo,.sl 2 (List.replicate c.bk.toNat bucket0),dW (Xa seed 1),dI 255,V1 (List.replicate c.lr.toNat (List.replicate c.lc.toNat 0))]:=by
  unfold Els.d newEls; simp only [List.map_replicate]; rfl
theorem newRad_d (seed:Nat) (c:Cfg):(newRad seed c).d = [dW seed,dW (Xa seed 0),dI c.fh,Zk (List.replicate c.fb.toNat false),.sl 1 (List.replicate c.rr.toNat [dCells c.rc.toNat])]:=by
  unfold Rad.d newRad; simp only [List.map_replicate]; rfl
theorem newUnv_d (seed:Nat) (c:Cfg):(newUnv seed c).d = [dW seed,dI c.tp,.sl 3 (Wa seed c.sr.toNat c.sc.toNat c.lv.toNat)]:=by
  unfold Unv.d newUnv Wa; simp only [List.map_map]; rfl
theorem newSpr_d (seed:Nat) (c:Cfg):(newSpr seed c).d = [dW seed,.sl 1 (List.replicate c.xr.toNat [dBuckets seed c.ml.toNat c.mb.toNat c.xc.toNat])]:=by
  unfold Spr.d newSpr; simp only [List.map_replicate]; rfl
end Core
end Go.Proofs.YtjfgdcegpgoobaaGreatDoor
namespace Go.Proofs.YtjfgdcegpgoobaaGreatDoor
open Go.Run Go
namespace Core
open Ty
set_option maxRecDepth 1000000
structure InR (c:Cfg):Prop where
  bk:0≤c.bk∧c.bk≤256
  en:0≤c.en∧c.en≤8
  lr:0≤c.lr∧c.lr≤7
  lc:0≤c.lc∧c.lc≤256
  rr:0≤c.rr∧c.rr≤7
  rc:0≤c.rc∧c.rc≤256
  lv:0≤c.lv∧c.lv≤16
  sr:0≤c.sr∧c.sr≤7
  sc:0≤c.sc∧c.sc≤256
  tp:0≤c.tp∧c.tp≤64
  xr:0≤c.xr∧c.xr≤7
  xc:0≤c.xc∧c.xc≤256
  ml:0≤c.ml∧c.ml≤16
  mb:0≤c.mb∧c.mb≤256
def Wc (c:Cfg):Bool:=(((((!decide (32 < c.rr * c.rc) && !decide (256 < c.bk * c.en)) && !decide (512 < c.lr * c.lc)) && !decide (2048 < c.lv * c.sr * c.sc)) && !decide (512 < c.lv * c.tp)) && !decide (4096 < c.xr * c.xc * c.ml * c.mb))
theorem small_run {n:Nat} {σ:St} {tab:Tab} {c:Cfg} (t:tab 16 = none) (h:InR c):Yl (Ql (C M) tab (n + 1) 16 [.agg c.cells] σ) (fun v σ'=>v = B (Wc c)∧Gr σ σ'):=by
  refine Q3 t Tryz.func16 (by kernel_rfl) ?_
  rw [F16_eq]
  unfold K16_0
  have b0_1:-9223372036854775808≤c.rr * c.rc∧c.rr * c.rc < 9223372036854775808:=by
    have l0:=Int.mul_nonneg (show 0≤c.rr from h.rr.1) h.rc.1
    have u0:=Int.mul_le_mul (show c.rr≤7 from h.rr.2) h.rc.2 h.rc.1 (show (0:Int)≤7 by omega)
    exact ⟨by omega,by omega⟩
  have b1_1:-9223372036854775808≤c.bk * c.en∧c.bk * c.en < 9223372036854775808:=by
    have l0:=Int.mul_nonneg (show 0≤c.bk from h.bk.1) h.en.1
    have u0:=Int.mul_le_mul (show c.bk≤256 from h.bk.2) h.en.2 h.en.1 (show (0:Int)≤256 by omega)
    exact ⟨by omega,by omega⟩
  have b2_1:-9223372036854775808≤c.lr * c.lc∧c.lr * c.lc < 9223372036854775808:=by
    have l0:=Int.mul_nonneg (show 0≤c.lr from h.lr.1) h.lc.1
    have u0:=Int.mul_le_mul (show c.lr≤7 from h.lr.2) h.lc.2 h.lc.1 (show (0:Int)≤7 by omega)
    exact ⟨by omega,by omega⟩
  have b3_1:-9223372036854775808≤c.lv * c.sr∧c.lv * c.sr < 9223372036854775808:=by
    have l0:=Int.mul_nonneg (show 0≤c.lv from h.lv.1) h.sr.1
    have u0:=Int.mul_le_mul (show c.lv≤16 from h.lv.2) h.sr.2 h.sr.1 (show (0:Int)≤16 by omega)
    exact ⟨by omega,by omega⟩
  have b3_2:-9223372036854775808≤c.lv * c.sr * c.sc∧c.lv * c.sr * c.sc < 9223372036854775808:=by
    have l0:=Int.mul_nonneg (show 0≤c.lv from h.lv.1) h.sr.1
    have u0:=Int.mul_le_mul (show c.lv≤16 from h.lv.2) h.sr.2 h.sr.1 (show (0:Int)≤16 by omega)
    have l1:=Int.mul_nonneg l0 h.sc.1
    have u1:=Int.mul_le_mul (show _≤(112:Int) from u0) h.sc.2 h.sc.1 (show (0:Int)≤112 by omega)
    exact ⟨by omega,by omega⟩
  have b4_1:-9223372036854775808≤c.lv * c.tp∧c.lv * c.tp < 9223372036854775808:=by
    have l0:=Int.mul_nonneg (show 0≤c.lv from h.lv.1) h.tp.1
    have u0:=Int.mul_le_mul (show c.lv≤16 from h.lv.2) h.tp.2 h.tp.1 (show (0:Int)≤16 by omega)
    exact ⟨by omega,by omega⟩
  have b5_1:-9223372036854775808≤c.xr * c.xc∧c.xr * c.xc < 9223372036854775808:=by
    have l0:=Int.mul_nonneg (show 0≤c.xr from h.xr.1) h.xc.1
    have u0:=Int.mul_le_mul (show c.xr≤7 from h.xr.2) h.xc.2 h.xc.1 (show (0:Int)≤7 by omega)
    exact ⟨by omega,by omega⟩
  have b5_2:-9223372036854775808≤c.xr * c.xc * c.ml∧c.xr * c.xc * c.ml < 9223372036854775808:=by
    have l0:=Int.mul_nonneg (show 0≤c.xr from h.xr.1) h.xc.1
    have u0:=Int.mul_le_mul (show c.xr≤7 from h.xr.2) h.xc.2 h.xc.1 (show (0:Int)≤7 by omega)
    have l1:=Int.mul_nonneg l0 h.ml.1
    have u1:=Int.mul_le_mul (show _≤(1792:Int) from u0) h.ml.2 h.ml.1 (show (0:Int)≤1792 by omega)
    exact ⟨by omega,by omega⟩
  have b5_3:-9223372036854775808≤c.xr * c.xc * c.ml * c.mb∧c.xr * c.xc * c.ml * c.mb < 9223372036854775808:=by
    have l0:=Int.mul_nonneg (show 0≤c.xr from h.xr.1) h.xc.1
    have u0:=Int.mul_le_mul (show c.xr≤7 from h.xr.2) h.xc.2 h.xc.1 (show (0:Int)≤7 by omega)
    have l1:=Int.mul_nonneg l0 h.ml.1
    have u1:=Int.mul_le_mul (show _≤(1792:Int) from u0) h.ml.2 h.ml.1 (show (0:Int)≤1792 by omega)
    have l2:=Int.mul_nonneg l1 h.mb.1
    have u2:=Int.mul_le_mul (show _≤(28672:Int) from u1) h.mb.2 h.mb.1 (show (0:Int)≤28672 by omega)
    exact ⟨by omega,by omega⟩
  have box:Z2 24 (.agg c.cells) σ = .new (.cells c.cells 24 true) (fun a=>P a 0):=rfl
  refine Ye (box) ?_
  have hb:(σ.push (.cells c.cells 24 true)).get σ.next = some (.cells c.cells 24 true):=by rw [St.get_push,if_pos rfl]
  refine Qb (fa24_8) ?_
  refine Qb (Xq hb rfl (Qq ag3 rfl)) ?_
  refine Qb (fa24_9) ?_
  refine Qb (Xq hb rfl (Qq ag3 rfl)) ?_
  refine Qb (o_mul) ?_
  rw [Xw (b0_1.1) (b0_1.2)]
  refine Qb (o_leq) ?_
  cases h0:decide (32 < c.rr * c.rc) with
  | true=>
    repeat first | refine Xo rfl ?_ | refine Qb rfl ?_
    exact Qs ⟨by unfold Wc; simp only [h0,Bool.not_true,Bool.and_false,Bool.false_and,Bool.not_false,Bool.true_and] <;> rfl,Gr.push _ _⟩
  | false=>
    refine Qz rfl (fa24_1) ?_
    refine Qz rfl (Xq hb rfl (Qq ag3 rfl)) ?_
    refine Qz rfl (fa24_2) ?_
    refine Qz rfl (Xq hb rfl (Qq ag3 rfl)) ?_
    refine Qz rfl (o_mul) ?_
    rw [Xw (b1_1.1) (b1_1.2)]
    refine Qz rfl (o_leq) ?_
    refine Qb (rfl) ?_
    cases h1:decide (256 < c.bk * c.en) with
    | true=>
      repeat first | refine Xo rfl ?_ | refine Qb rfl ?_
      exact Qs ⟨by unfold Wc; simp only [h0,h1,Bool.not_true,Bool.and_false,Bool.false_and,Bool.not_false,Bool.true_and] <;> rfl,Gr.push _ _⟩
    | false=>
      refine Qz rfl (fa24_4) ?_
      refine Qz rfl (Xq hb rfl (Qq ag3 rfl)) ?_
      refine Qz rfl (fa24_5) ?_
      refine Qz rfl (Xq hb rfl (Qq ag3 rfl)) ?_
      refine Qz rfl (o_mul) ?_
      rw [Xw (b2_1.1) (b2_1.2)]
      refine Qz rfl (o_leq) ?_
      refine Qb (rfl) ?_
      cases h2:decide (512 < c.lr * c.lc) with
      | true=>
        repeat first | refine Xo rfl ?_ | refine Qb rfl ?_
        exact Qs ⟨by unfold Wc; simp only [h0,h1,h2,Bool.not_true,Bool.and_false,Bool.false_and,Bool.not_false,Bool.true_and] <;> rfl,Gr.push _ _⟩
      | false=>
        refine Qz rfl (fa24_10) ?_
        refine Qz rfl (Xq hb rfl (Qq ag3 rfl)) ?_
        refine Qz rfl (fa24_11) ?_
        refine Qz rfl (Xq hb rfl (Qq ag3 rfl)) ?_
        refine Qz rfl (o_mul) ?_
        rw [Xw (b3_1.1) (b3_1.2)]
        refine Qz rfl (fa24_12) ?_
        refine Qz rfl (Xq hb rfl (Qq ag3 rfl)) ?_
        refine Qz rfl (o_mul) ?_
        rw [Xw (b3_2.1) (b3_2.2)]
        refine Qz rfl (o_leq) ?_
        refine Qb (rfl) ?_
        cases h3:decide (2048 < c.lv * c.sr * c.sc) with
        | true=>
          repeat first | refine Xo rfl ?_ | refine Qb rfl ?_
          exact Qs ⟨by unfold Wc; simp only [h0,h1,h2,h3,Bool.not_true,Bool.and_false,Bool.false_and,Bool.not_false,Bool.true_and] <;> rfl,Gr.push _ _⟩
        | false=>
          refine Qz rfl (fa24_10) ?_
          refine Qz rfl (Xq hb rfl (Qq ag3 rfl)) ?_
          refine Qz rfl (fa24_13) ?_
          refine Qz rfl (Xq hb rfl (Qq ag3 rfl)) ?_
          refine Qz rfl (o_mul) ?_
          rw [Xw (b4_1.1) (b4_1.2)]
          refine Qz rfl (o_leq) ?_
          refine Qb (rfl) ?_
          cases h4:decide (512 < c.lv * c.tp) with
          | true=>
            repeat first | refine Xo rfl ?_ | refine Qb rfl ?_
            exact Qs ⟨by unfold Wc; simp only [h0,h1,h2,h3,h4,Bool.not_true,Bool.and_false,Bool.false_and,Bool.not_false,Bool.true_and] <;> rfl,Gr.push _ _⟩
          | false=>
            refine Qz rfl (fa24_14) ?_
            refine Qz rfl (Xq hb rfl (Qq ag3 rfl)) ?_
            refine Qz rfl (fa24_15) ?_
            refine Qz rfl (Xq hb rfl (Qq ag3 rfl)) ?_
            refine Qz rfl (o_mul) ?_
            rw [Xw (b5_1.1) (b5_1.2)]
            refine Qz rfl (fa24_16) ?_
            refine Qz rfl (Xq hb rfl (Qq ag3 rfl)) ?_
            refine Qz rfl (o_mul) ?_
            rw [Xw (b5_2.1) (b5_2.2)]
            refine Qz rfl (fa24_17) ?_
            refine Qz rfl (Xq hb rfl (Qq ag3 rfl)) ?_
            refine Qz rfl (o_mul) ?_
            rw [Xw (b5_3.1) (b5_3.2)]
            refine Qz rfl (o_leq) ?_
            refine Qb (rfl) ?_
            exact Qs ⟨by unfold Wc; simp only [h0,h1,h2,h3,h4,Bool.not_false,Bool.true_and] <;> rfl,Gr.push _ _⟩
theorem y_gcyl {call:Qd} {σ:St} {Q Q':AV→St→Prop} {w:Option Bool} {f:FuncId} {args:List AV} {k:AV→Kt} (hw:w = some true) (hx:(C M).ext f = none) (h:Yl (call f args σ) Q') (hk:∀ v σ',Q' v σ'→Yl (k v σ') Q):Yl (bnd (gdO w (Qy (C M) call (fnV f) args)) k σ) Q:=by
  subst hw
  exact V4 hx h hk
def erI (b:Bool):AV:=bif b then I 1 else I 0
theorem o_max4 {ts:List TypeId} {x y z w:Bool} {σ:St}:Qv (C M) .max ts [erI x,erI y,erI z,erI w] σ = .val (erI (((x || y) || z) || w)):=by
  cases x <;> cases y <;> cases z <;> cases w <;> rfl
theorem o_ner {t:TypeId} {x:Bool} {σ:St}:Qi (C M) .neq t (erI x) (I 0) σ = .val (B x):=by cases x <;> rfl
structure Free (tab:Tab):Prop where
  t75:tab 84 = none
  t76:tab 85 = none
  t51:tab 37 = none
  t50:tab 36 = none
  t27:tab 12 = none
  t49:tab 35 = none
  t26:tab 11 = none
  t77:tab 86 = none
  t52:tab 38 = none
  t78:tab 87 = none
  t53:tab 39 = none
  t28:tab 13 = none
  t54:tab 40 = none
  t29:tab 14 = none
  t55:tab 41 = none
  t56:tab 42 = none
  t30:tab 15 = none
  t31:tab 16 = none
  t12:tab 4 = none
def zcfg:Cfg:=⟨0,0,0,0,0,0,0,0,0,0,0,0,0,0,0,0,0,0⟩
def tailZ:List CV:=[.int .u64 0,.int .i64 0,.int .i64 0,.slice none 0 (.ex 0),.int .u64 0,.int .i64 0,.slice none 0 (.ex 0),.int .u64 0,.int .u64 0,.int .i64 0,.slice none 0 (.ex 0),.slice none 0 (.ex 0),.int .u64 0,.int .i64 0,.slice none 0 (.ex 0),.int .u64 0,.slice none 0 (.ex 0)]
def W0:List CV:=zcfg.cells ++ [.int .i64 0,.int .i64 0,.slice none 0 (.ex 0)] ++ tailZ
def Wd (c:Cfg):Bool:=((((Y6 c.bk c.en c.vo c.lr c.lc || radBad c.fb c.fh c.rr c.rc) || Vp c.lv c.sr c.sc c.tp) || Ve c.xr c.xc c.ml c.mb)) || !Wc c
theorem elsBad_in {c:Cfg} (h:Y6 c.bk c.en c.vo c.lr c.lc = false):(0≤c.bk∧c.bk≤256)∧(0≤c.en∧c.en≤8)∧(0≤c.lr∧c.lr≤7)∧(0≤c.lc∧c.lc≤256):=by
  unfold Y6 W6 at h
  simp only [Bool.or_eq_false_iff,decide_eq_false_iff_not] at h
  omega
theorem radBad_in {c:Cfg} (h:radBad c.fb c.fh c.rr c.rc = false):(0≤c.rr∧c.rr≤7)∧(0≤c.rc∧c.rc≤256):=by
  unfold radBad at h
  simp only [Bool.or_eq_false_iff,decide_eq_false_iff_not] at h
  omega
theorem unvBad_in {c:Cfg} (h:Vp c.lv c.sr c.sc c.tp = false):(0≤c.lv∧c.lv≤16)∧(0≤c.sr∧c.sr≤7)∧(0≤c.sc∧c.sc≤256)∧(0≤c.tp∧c.tp≤64):=by
  unfold Vp Y5 at h
  simp only [Bool.or_eq_false_iff,decide_eq_false_iff_not] at h
  omega
theorem sprBad_in {c:Cfg} (h:Ve c.xr c.xc c.ml c.mb = false):(0≤c.xr∧c.xr≤7)∧(0≤c.xc∧c.xc≤256)∧(0≤c.ml∧c.ml≤16)∧(0≤c.mb∧c.mb≤256):=by
  unfold Ve V7 at h
  simp only [Bool.or_eq_false_iff,decide_eq_false_iff_not] at h
  omega
theorem new69 {σ:St}:Xe (C M) 45 σ = .new (.cells W0 45 true) (fun a=>P a 0):=by kernel_rfl
theorem bld69 {σ:St} {c:Cfg} {k:Nat} {cap:Cap}:Xp (C M) 45 [(0,.agg c.cells),(3,.one (.slice (some (k,0)) 18 cap))] σ = .val (.agg (c.cells ++ [.int .i64 0,.int .i64 0,.slice (some (k,0)) 18 cap] ++ tailZ)):=by kernel_rfl
theorem bld69z {σ:St}:Xp (C M) 45 [] σ = .val (.agg W0):=by kernel_rfl
theorem rowP_lt (a b:Nat):Xa a b < 18446744073709551616:=by
  have:=mulP_lt (addP (mulP (addP a 3) (addP b 2)) 5) (addP (mulP (addP a 3) (addP b 2)) 5)
  unfold Xa; omega
theorem cfg_rep {ok:Nat→Prop} {σ:St} (c:Cfg):RepL ok σ c.cells c.d:=
  .cons (.flat rfl) (.cons (.flat rfl) (.cons (.flat rfl) (.cons (.flat rfl) (.cons (.flat rfl) (.cons (.flat rfl) (.cons (.flat rfl) (.cons (.flat rfl) (.cons (.flat rfl) (.cons (.flat rfl) (.cons (.flat rfl) (.cons (.flat rfl) (.cons (.flat rfl) (.cons (.flat rfl) (.cons (.flat rfl) (.cons (.flat rfl) (.cons (.flat rfl) (.cons (.flat rfl) .nil)))))))))))))))))
theorem bank_new {n:Nat} {σ:St} {tab:Tab} {c:Cfg} (ht:Free tab) (hs:c.seed < 18446744073709551616) :
    Yl (Ql (C M) tab (n + 5) 4 [.agg c.cells] σ) (fun v σ'=>Gr σ σ'∧((Wd c = true∧v = .tup [.agg W0,I 1]) ∨ (Wd c = false∧∃ cs,v = .tup [.agg cs,I 0]∧RepL (fun i=>σ.next≤i) σ' cs (newB c).d))):=by
  refine Q3 ht.t12 Tryz.func4 (by kernel_rfl) ?_
  rw [F4_eq]
  unfold K4_0
  have box:Z2 24 (.agg c.cells) σ = .new (.cells c.cells 24 true) (fun a=>P a 0):=rfl
  refine Ye (box) ?_
  refine Ye (new69) ?_
  generalize hσ1:(σ.push (.cells c.cells 24 true)).push (.cells W0 45 true) = σ1
  have n1:σ1.next = σ.next + 2:=by rw [← hσ1]; rfl
  have e1:Gr σ σ1:=by rw [← hσ1]; exact (Gr.push _ _).trans (Gr.push _ _)
  have hc1:σ1.get σ.next = some (.cells c.cells 24 true):=by rw [← hσ1,St.get_push,if_neg (by rw [St.next_push]; omega),St.get_push,if_pos rfl]
  have hr1:σ1.get (σ.next + 1) = some (.cells W0 45 true):=by rw [← hσ1,St.get_push,if_pos (by rw [St.next_push])]
  unfold K4_1
  refine y_at ?_
  refine X0 ?_
  have hcg:(σ1.gap 5).get σ.next = some (.cells c.cells 24 true):=hc1
  refine Qj (Xq hcg rfl (X2 ag24 sz24 rfl)) rfl ?_
  have mk:=mks3 (σ:=σ1.gap 5) (k:=18) (by omega) (by omega)
  refine Nf (mk) ?_
  refine Qf (bld69) ?_
  refine Nf (new69) ?_
  generalize hrj:CV.slice (some (Nat.add σ1.next 1,0)) 18 (.to 1) = rj
  generalize hσ2:((σ1.gap 5).lay (Nat.add σ1.next 1) (.cells (List.replicate 18 (.int .i64 0)) 3 true)).lay (Nat.add σ1.next 3) (.cells W0 45 true) = σ2
  have n2:σ2.next = σ1.next + 5:=by rw [← hσ2]; rfl
  have old2:∀ i,i < σ1.next→σ2.get i = σ1.get i:=fun i hi=>by rw [← hσ2,St.get_lay,if_neg (by simp only [Nat.add_eq]; omega),St.get_lay,if_neg (by simp only [Nat.add_eq]; omega)]; rfl
  have b2:σ2.get (σ1.next + 3) = some (.cells W0 45 true):=by rw [← hσ2,St.get_lay,if_pos rfl]
  have j2:σ2.get (σ1.next + 1) = some (.cells (List.replicate 18 (.int .i64 0)) 3 true):=by rw [← hσ2,St.get_lay,if_neg (by simp only [Nat.add_eq]; omega),St.get_lay,if_pos rfl]
  obtain ⟨σ3,hσ3⟩:∃ s,σ2.put (σ1.next + 3) (.cells (c.cells ++ [.int .i64 0,.int .i64 0,rj] ++ tailZ) 45 true) = s:=⟨_,rfl⟩
  refine X7 (σ':=σ3) (by rw [← hσ3]; exact X1 b2 rfl sz45 rfl rfl) ?_
  have n3:σ3.next = σ2.next:=by rw [← hσ3]; rfl
  have old3:∀ i,i ≠ σ1.next + 3→σ3.get i = σ2.get i:=fun i hi=>by rw [← hσ3,St.get_put,if_neg hi]
  have b3:σ3.get (σ1.next + 3) = some (.cells (c.cells ++ [.int .i64 0,.int .i64 0,rj] ++ tailZ) 45 true):=by rw [← hσ3,St.get_put,if_pos rfl]
  have hc3:σ3.get σ.next = some (.cells c.cells 24 true):=by rw [old3 _ (by omega),old2 _ (by omega)]; exact hc1
  have hr3:σ3.get (σ.next + 1) = some (.cells W0 45 true):=by rw [old3 _ (by omega),old2 _ (by omega)]; exact hr1
  have j3:σ3.get (σ1.next + 1) = some (.cells (List.replicate 18 (.int .i64 0)) 3 true):=by rw [old3 _ (by omega)]; exact j2
  have e3:∀ i,i < σ.next→σ3.get i = σ.get i:=fun i hi=>by rw [old3 _ (by omega),old2 _ (by omega),e1.2 i hi]
  unfold K4_2
  unfold K4_3
  refine X0 ?_
  refine Qf (fa24_0) ?_
  refine Qj (Xq hc3 rfl (Qq Zf rfl)) rfl ?_
  refine Vd rfl (V9 (n:=n + 1) ht.t75 ht.t76 ht.t51 ht.t50 ht.t27 hs (show (30:Int) < 9223372036854775808 by omega)) ?_
  refine Qf (fa24_1) ?_
  refine Vl rfl (Xq hc3 rfl (Qq ag3 rfl)) (by rw [Yk (Xq hc3 rfl (Qq ag3 rfl)) rfl,Bool.and_self]; rfl) ?_
  refine Qf (fa24_2) ?_
  refine Vl rfl (Xq hc3 rfl (Qq ag3 rfl)) (by rw [Yk (Xq hc3 rfl (Qq ag3 rfl)) rfl,Bool.and_self]; rfl) ?_
  refine Qf (fa24_3) ?_
  refine Vl rfl (Xq hc3 rfl (Qq ag3 rfl)) (by rw [Yk (Xq hc3 rfl (Qq ag3 rfl)) rfl,Bool.and_self]; rfl) ?_
  refine Qf (fa24_4) ?_
  refine Vl rfl (Xq hc3 rfl (Qq ag3 rfl)) (by rw [Yk (Xq hc3 rfl (Qq ag3 rfl)) rfl,Bool.and_self]; rfl) ?_
  refine Qf (fa24_5) ?_
  refine Vl rfl (Xq hc3 rfl (Qq ag3 rfl)) (by rw [Yk (Xq hc3 rfl (Qq ag3 rfl)) rfl,Bool.and_self]; rfl) ?_
  refine y_dcyl rfl (elastic_new (n:=n) ht.t75 ht.t76 ht.t51 ht.t50 ht.t27 ht.t49 ht.t26 (rowP_lt c.seed 30)) fun v σ4 ⟨e4,hv⟩=>?_
  obtain ⟨l,hl,rfl,hels⟩:∃ l,l.length = 7∧v = .tup [.agg l,erI (Y6 c.bk c.en c.vo c.lr c.lc)]∧(Y6 c.bk c.en c.vo c.lr c.lc = false→RepL (fun i=>σ3.next≤i) σ4 l (newEls (Xa c.seed 30) c).d):=by
    rcases hv with ⟨hb,rfl⟩ | ⟨hb,bv,rv,rfl,r1,r2⟩
    · exact ⟨_,rfl,by rw [hb]; rfl,fun h=>by rw [hb] at h; cases h⟩
    · exact ⟨_,rfl,by rw [hb]; rfl,fun _=>by rw [newEls_d]; exact .cons (.flat rfl) (.cons (.flat rfl) (.cons (.flat rfl) (.cons r1 (.cons (.flat rfl) (.cons (.flat rfl) (.cons r2 .nil))))))⟩
  obtain ⟨w1,w2,w3,w4,w5,w6,w7,rfl⟩:∃ w1 w2 w3 w4 w5 w6 w7,l = [w1,w2,w3,w4,w5,w6,w7]:=by
    match l,hl with
    | [a,b,c,d,e,f,g],_=>exact ⟨a,b,c,d,e,f,g,rfl⟩
  have m4:=e4.1
  have b4:σ4.get (σ1.next + 3) = some (.cells (c.cells ++ [.int .i64 0,.int .i64 0,rj] ++ tailZ) 45 true):=(e4.2 _ (by omega)).trans b3
  obtain ⟨σ5,hσ5⟩:∃ s,σ4.put (σ1.next + 3) (.cells (c.cells ++ [.int .i64 0,.int .i64 0,rj] ++ [w1,w2,w3,w4,w5,w6,w7] ++ [.int .u64 0,.int .u64 0,.int .i64 0,.slice none 0 (.ex 0),.slice none 0 (.ex 0),.int .u64 0,.int .i64 0,.slice none 0 (.ex 0),.int .u64 0,.slice none 0 (.ex 0)]) 45 true) = s:=⟨_,rfl⟩
  refine Qf (rfl) ?_
  refine Qf (fa45_4) ?_
  refine X7 (σ':=σ5) (by rw [← hσ5]; exact X1 b4 rfl sz31 rfl rfl) ?_
  refine Qf (rfl) ?_
  have n5:σ5.next = σ4.next:=by rw [← hσ5]; rfl
  have old5:∀ i,i ≠ σ1.next + 3→i < σ3.next→σ5.get i = σ3.get i:=fun i hi hlt=>by rw [← hσ5,St.get_put,if_neg hi,e4.2 i hlt]
  have b5:σ5.get (σ1.next + 3) = some (.cells (c.cells ++ [.int .i64 0,.int .i64 0,rj] ++ [w1,w2,w3,w4,w5,w6,w7] ++ [.int .u64 0,.int .u64 0,.int .i64 0,.slice none 0 (.ex 0),.slice none 0 (.ex 0),.int .u64 0,.int .i64 0,.slice none 0 (.ex 0),.int .u64 0,.slice none 0 (.ex 0)]) 45 true):=by rw [← hσ5,St.get_put,if_pos rfl]
  have hc5:σ5.get σ.next = some (.cells c.cells 24 true):=by rw [old5 _ (by omega) (by omega)]; exact hc3
  have hr5:σ5.get (σ.next + 1) = some (.cells W0 45 true):=by rw [old5 _ (by omega) (by omega)]; exact hr3
  have j5:σ5.get (σ1.next + 1) = some (.cells (List.replicate 18 (.int .i64 0)) 3 true):=by rw [old5 _ (by omega) (by omega)]; exact j3
  have e5:∀ i,i < σ.next→σ5.get i = σ.get i:=fun i hi=>by rw [old5 _ (by omega) (by omega)]; exact e3 i hi
  have hels:=fun hb=>(hels hb).to (σ':=σ5) (ok':=fun i=>σ1.next≤i∧i ≠ σ1.next + 3) fun i hi hlt=>⟨by rw [← hσ5,St.get_put,if_neg (by omega)],by omega,by omega,by omega⟩
  unfold K4_4
  refine X0 ?_
  refine Qf (fa24_0) ?_
  refine Qj (Xq hc5 rfl (Qq Zf rfl)) rfl ?_
  refine Vd rfl (V9 (n:=n + 1) ht.t75 ht.t76 ht.t51 ht.t50 ht.t27 hs (show (31:Int) < 9223372036854775808 by omega)) ?_
  refine Qf (fa24_6) ?_
  refine Vl rfl (Xq hc5 rfl (Qq ag3 rfl)) (by rw [Yk (Xq hc5 rfl (Qq ag3 rfl)) rfl,Bool.and_self]; rfl) ?_
  refine Qf (fa24_7) ?_
  refine Vl rfl (Xq hc5 rfl (Qq ag3 rfl)) (by rw [Yk (Xq hc5 rfl (Qq ag3 rfl)) rfl,Bool.and_self]; rfl) ?_
  refine Qf (fa24_8) ?_
  refine Vl rfl (Xq hc5 rfl (Qq ag3 rfl)) (by rw [Yk (Xq hc5 rfl (Qq ag3 rfl)) rfl,Bool.and_self]; rfl) ?_
  refine Qf (fa24_9) ?_
  refine Vl rfl (Xq hc5 rfl (Qq ag3 rfl)) (by rw [Yk (Xq hc5 rfl (Qq ag3 rfl)) rfl,Bool.and_self]; rfl) ?_
  refine y_dcyl rfl (radar_new (n:=n) ht.t75 ht.t76 ht.t51 ht.t50 ht.t27 ht.t77 ht.t52 ht.t78 ht.t53 ht.t28 (rowP_lt c.seed 31)) fun v σ6 ⟨e6,hv⟩=>?_
  obtain ⟨l,hl,rfl,hrad⟩:∃ l,l.length = 5∧v = .tup [.agg l,erI (radBad c.fb c.fh c.rr c.rc)]∧(radBad c.fb c.fh c.rr c.rc = false→RepL (fun i=>σ5.next≤i) σ6 l (newRad (Xa c.seed 31) c).d):=by
    rcases hv with ⟨hb,rfl⟩ | ⟨hb,bv,rv,rfl,r1,r2⟩
    · exact ⟨_,rfl,by rw [hb]; rfl,fun h=>by rw [hb] at h; cases h⟩
    · exact ⟨_,rfl,by rw [hb]; rfl,fun _=>by rw [newRad_d]; exact .cons (.flat rfl) (.cons (.flat rfl) (.cons (.flat rfl) (.cons r1 (.cons r2 .nil))))⟩
  obtain ⟨y1,y2,y3,y4,y5,rfl⟩:∃ y1 y2 y3 y4 y5,l = [y1,y2,y3,y4,y5]:=by
    match l,hl with
    | [a,b,c,d,e],_=>exact ⟨a,b,c,d,e,rfl⟩
  have m6:=e6.1
  have b6:σ6.get (σ1.next + 3) = some (.cells (c.cells ++ [.int .i64 0,.int .i64 0,rj] ++ [w1,w2,w3,w4,w5,w6,w7] ++ [.int .u64 0,.int .u64 0,.int .i64 0,.slice none 0 (.ex 0),.slice none 0 (.ex 0),.int .u64 0,.int .i64 0,.slice none 0 (.ex 0),.int .u64 0,.slice none 0 (.ex 0)]) 45 true):=(e6.2 _ (by omega)).trans b5
  obtain ⟨σ7,hσ7⟩:∃ s,σ6.put (σ1.next + 3) (.cells (c.cells ++ [.int .i64 0,.int .i64 0,rj] ++ [w1,w2,w3,w4,w5,w6,w7] ++ [y1,y2,y3,y4,y5] ++ [.int .u64 0,.int .i64 0,.slice none 0 (.ex 0),.int .u64 0,.slice none 0 (.ex 0)]) 45 true) = s:=⟨_,rfl⟩
  refine Qf (rfl) ?_
  refine Qf (fa45_5) ?_
  refine X7 (σ':=σ7) (by rw [← hσ7]; exact X1 b6 rfl sz37 rfl rfl) ?_
  refine Qf (rfl) ?_
  have n7:σ7.next = σ6.next:=by rw [← hσ7]; rfl
  have old7:∀ i,i ≠ σ1.next + 3→i < σ5.next→σ7.get i = σ5.get i:=fun i hi hlt=>by rw [← hσ7,St.get_put,if_neg hi,e6.2 i hlt]
  have b7:σ7.get (σ1.next + 3) = some (.cells (c.cells ++ [.int .i64 0,.int .i64 0,rj] ++ [w1,w2,w3,w4,w5,w6,w7] ++ [y1,y2,y3,y4,y5] ++ [.int .u64 0,.int .i64 0,.slice none 0 (.ex 0),.int .u64 0,.slice none 0 (.ex 0)]) 45 true):=by rw [← hσ7,St.get_put,if_pos rfl]
  have hc7:σ7.get σ.next = some (.cells c.cells 24 true):=by rw [old7 _ (by omega) (by omega)]; exact hc5
  have hr7:σ7.get (σ.next + 1) = some (.cells W0 45 true):=by rw [old7 _ (by omega) (by omega)]; exact hr5
  have j7:σ7.get (σ1.next + 1) = some (.cells (List.replicate 18 (.int .i64 0)) 3 true):=by rw [old7 _ (by omega) (by omega)]; exact j5
  have e7:∀ i,i < σ.next→σ7.get i = σ.get i:=fun i hi=>by rw [old7 _ (by omega) (by omega)]; exact e5 i hi
  have hels:=fun hb=>(hels hb).to (σ':=σ7) (ok':=fun i=>σ1.next≤i∧i ≠ σ1.next + 3) fun i hi hlt=>⟨old7 i (by omega) (by omega),by omega,by omega,by omega⟩
  have hrad:=fun hb=>(hrad hb).to (σ':=σ7) (ok':=fun i=>σ1.next≤i∧i ≠ σ1.next + 3) fun i hi hlt=>⟨by rw [← hσ7,St.get_put,if_neg (by omega)],by omega,by omega,by omega⟩
  unfold K4_5
  refine X0 ?_
  refine Qf (fa24_0) ?_
  refine Qj (Xq hc7 rfl (Qq Zf rfl)) rfl ?_
  refine Vd rfl (V9 (n:=n + 1) ht.t75 ht.t76 ht.t51 ht.t50 ht.t27 hs (show (32:Int) < 9223372036854775808 by omega)) ?_
  refine Qf (fa24_10) ?_
  refine Vl rfl (Xq hc7 rfl (Qq ag3 rfl)) (by rw [Yk (Xq hc7 rfl (Qq ag3 rfl)) rfl,Bool.and_self]; rfl) ?_
  refine Qf (fa24_11) ?_
  refine Vl rfl (Xq hc7 rfl (Qq ag3 rfl)) (by rw [Yk (Xq hc7 rfl (Qq ag3 rfl)) rfl,Bool.and_self]; rfl) ?_
  refine Qf (fa24_12) ?_
  refine Vl rfl (Xq hc7 rfl (Qq ag3 rfl)) (by rw [Yk (Xq hc7 rfl (Qq ag3 rfl)) rfl,Bool.and_self]; rfl) ?_
  refine Qf (fa24_13) ?_
  refine Vl rfl (Xq hc7 rfl (Qq ag3 rfl)) (by rw [Yk (Xq hc7 rfl (Qq ag3 rfl)) rfl,Bool.and_self]; rfl) ?_
  refine y_dcyl rfl (univ_new (n:=n) ht.t75 ht.t76 ht.t51 ht.t50 ht.t27 ht.t54 ht.t29 (rowP_lt c.seed 32)) fun v σ8 ⟨e8,hv⟩=>?_
  obtain ⟨l,hl,rfl,hunv⟩:∃ l,l.length = 3∧v = .tup [.agg l,erI (Vp c.lv c.sr c.sc c.tp)]∧(Vp c.lv c.sr c.sc c.tp = false→RepL (fun i=>σ7.next≤i) σ8 l (newUnv (Xa c.seed 32) c).d):=by
    rcases hv with ⟨hb,rfl⟩ | ⟨hb,bv,rfl,r1⟩
    · exact ⟨_,rfl,by rw [hb]; rfl,fun h=>by rw [hb] at h; cases h⟩
    · exact ⟨_,rfl,by rw [hb]; rfl,fun _=>by rw [newUnv_d]; exact .cons (.flat rfl) (.cons (.flat rfl) (.cons r1 .nil))⟩
  obtain ⟨z1,z2,z3,rfl⟩:∃ z1 z2 z3,l = [z1,z2,z3]:=by
    match l,hl with
    | [a,b,c],_=>exact ⟨a,b,c,rfl⟩
  have m8:=e8.1
  have b8:σ8.get (σ1.next + 3) = some (.cells (c.cells ++ [.int .i64 0,.int .i64 0,rj] ++ [w1,w2,w3,w4,w5,w6,w7] ++ [y1,y2,y3,y4,y5] ++ [.int .u64 0,.int .i64 0,.slice none 0 (.ex 0),.int .u64 0,.slice none 0 (.ex 0)]) 45 true):=(e8.2 _ (by omega)).trans b7
  obtain ⟨σ9,hσ9⟩:∃ s,σ8.put (σ1.next + 3) (.cells (c.cells ++ [.int .i64 0,.int .i64 0,rj] ++ [w1,w2,w3,w4,w5,w6,w7] ++ [y1,y2,y3,y4,y5] ++ [z1,z2,z3] ++ [.int .u64 0,.slice none 0 (.ex 0)]) 45 true) = s:=⟨_,rfl⟩
  refine Qf (rfl) ?_
  refine Qf (fa45_6) ?_
  refine X7 (σ':=σ9) (by rw [← hσ9]; exact X1 b8 rfl sz40 rfl rfl) ?_
  refine Qf (rfl) ?_
  have n9:σ9.next = σ8.next:=by rw [← hσ9]; rfl
  have old9:∀ i,i ≠ σ1.next + 3→i < σ7.next→σ9.get i = σ7.get i:=fun i hi hlt=>by rw [← hσ9,St.get_put,if_neg hi,e8.2 i hlt]
  have b9:σ9.get (σ1.next + 3) = some (.cells (c.cells ++ [.int .i64 0,.int .i64 0,rj] ++ [w1,w2,w3,w4,w5,w6,w7] ++ [y1,y2,y3,y4,y5] ++ [z1,z2,z3] ++ [.int .u64 0,.slice none 0 (.ex 0)]) 45 true):=by rw [← hσ9,St.get_put,if_pos rfl]
  have hc9:σ9.get σ.next = some (.cells c.cells 24 true):=by rw [old9 _ (by omega) (by omega)]; exact hc7
  have hr9:σ9.get (σ.next + 1) = some (.cells W0 45 true):=by rw [old9 _ (by omega) (by omega)]; exact hr7
  have j9:σ9.get (σ1.next + 1) = some (.cells (List.replicate 18 (.int .i64 0)) 3 true):=by rw [old9 _ (by omega) (by omega)]; exact j7
  have e9:∀ i,i < σ.next→σ9.get i = σ.get i:=fun i hi=>by rw [old9 _ (by omega) (by omega)]; exact e7 i hi
  have hels:=fun hb=>(hels hb).to (σ':=σ9) (ok':=fun i=>σ1.next≤i∧i ≠ σ1.next + 3) fun i hi hlt=>⟨old9 i (by omega) (by omega),by omega,by omega,by omega⟩
  have hrad:=fun hb=>(hrad hb).to (σ':=σ9) (ok':=fun i=>σ1.next≤i∧i ≠ σ1.next + 3) fun i hi hlt=>⟨old9 i (by omega) (by omega),by omega,by omega,by omega⟩
  have hunv:=fun hb=>(hunv hb).to (σ':=σ9) (ok':=fun i=>σ1.next≤i∧i ≠ σ1.next + 3) fun i hi hlt=>⟨by rw [← hσ9,St.get_put,if_neg (by omega)],by omega,by omega,by omega⟩
  unfold K4_6
  refine X0 ?_
  refine Qf (fa24_0) ?_
  refine Qj (Xq hc9 rfl (Qq Zf rfl)) rfl ?_
  refine Vd rfl (V9 (n:=n + 1) ht.t75 ht.t76 ht.t51 ht.t50 ht.t27 hs (show (33:Int) < 9223372036854775808 by omega)) ?_
  refine Qf (fa24_14) ?_
  refine Vl rfl (Xq hc9 rfl (Qq ag3 rfl)) (by rw [Yk (Xq hc9 rfl (Qq ag3 rfl)) rfl,Bool.and_self]; rfl) ?_
  refine Qf (fa24_15) ?_
  refine Vl rfl (Xq hc9 rfl (Qq ag3 rfl)) (by rw [Yk (Xq hc9 rfl (Qq ag3 rfl)) rfl,Bool.and_self]; rfl) ?_
  refine Qf (fa24_16) ?_
  refine Vl rfl (Xq hc9 rfl (Qq ag3 rfl)) (by rw [Yk (Xq hc9 rfl (Qq ag3 rfl)) rfl,Bool.and_self]; rfl) ?_
  refine Qf (fa24_17) ?_
  refine Vl rfl (Xq hc9 rfl (Qq ag3 rfl)) (by rw [Yk (Xq hc9 rfl (Qq ag3 rfl)) rfl,Bool.and_self]; rfl) ?_
  refine y_dcyl rfl (spread_new (n:=n) ht.t75 ht.t76 ht.t51 ht.t50 ht.t27 ht.t55 ht.t78 ht.t56 ht.t30 (rowP_lt c.seed 33)) fun v σ10 ⟨e10,hv⟩=>?_
  obtain ⟨l,hl,rfl,hspr⟩:∃ l,l.length = 2∧v = .tup [.agg l,erI (Ve c.xr c.xc c.ml c.mb)]∧(Ve c.xr c.xc c.ml c.mb = false→RepL (fun i=>σ9.next≤i) σ10 l (newSpr (Xa c.seed 33) c).d):=by
    rcases hv with ⟨hb,rfl⟩ | ⟨hb,bv,rfl,r1⟩
    · exact ⟨_,rfl,by rw [hb]; rfl,fun h=>by rw [hb] at h; cases h⟩
    · exact ⟨_,rfl,by rw [hb]; rfl,fun _=>by rw [newSpr_d]; exact .cons (.flat rfl) (.cons r1 .nil)⟩
  obtain ⟨s1,s2,rfl⟩:∃ s1 s2,l = [s1,s2]:=by
    match l,hl with
    | [a,b],_=>exact ⟨a,b,rfl⟩
  have m10:=e10.1
  have b10:σ10.get (σ1.next + 3) = some (.cells (c.cells ++ [.int .i64 0,.int .i64 0,rj] ++ [w1,w2,w3,w4,w5,w6,w7] ++ [y1,y2,y3,y4,y5] ++ [z1,z2,z3] ++ [.int .u64 0,.slice none 0 (.ex 0)]) 45 true):=(e10.2 _ (by omega)).trans b9
  obtain ⟨σ11,hσ11⟩:∃ s,σ10.put (σ1.next + 3) (.cells (c.cells ++ [.int .i64 0,.int .i64 0,rj] ++ [w1,w2,w3,w4,w5,w6,w7] ++ [y1,y2,y3,y4,y5] ++ [z1,z2,z3] ++ [s1,s2]) 45 true) = s:=⟨_,rfl⟩
  refine Qf (rfl) ?_
  refine Qf (fa45_7) ?_
  refine X7 (σ':=σ11) (by rw [← hσ11]; exact X1 b10 rfl sz43 rfl rfl) ?_
  refine Qf (rfl) ?_
  have n11:σ11.next = σ10.next:=by rw [← hσ11]; rfl
  have old11:∀ i,i ≠ σ1.next + 3→i < σ9.next→σ11.get i = σ9.get i:=fun i hi hlt=>by rw [← hσ11,St.get_put,if_neg hi,e10.2 i hlt]
  have b11:σ11.get (σ1.next + 3) = some (.cells (c.cells ++ [.int .i64 0,.int .i64 0,rj] ++ [w1,w2,w3,w4,w5,w6,w7] ++ [y1,y2,y3,y4,y5] ++ [z1,z2,z3] ++ [s1,s2]) 45 true):=by rw [← hσ11,St.get_put,if_pos rfl]
  have hc11:σ11.get σ.next = some (.cells c.cells 24 true):=by rw [old11 _ (by omega) (by omega)]; exact hc9
  have hr11:σ11.get (σ.next + 1) = some (.cells W0 45 true):=by rw [old11 _ (by omega) (by omega)]; exact hr9
  have j11:σ11.get (σ1.next + 1) = some (.cells (List.replicate 18 (.int .i64 0)) 3 true):=by rw [old11 _ (by omega) (by omega)]; exact j9
  have e11:∀ i,i < σ.next→σ11.get i = σ.get i:=fun i hi=>by rw [old11 _ (by omega) (by omega)]; exact e9 i hi
  have hels:=fun hb=>(hels hb).to (σ':=σ11) (ok':=fun i=>σ1.next≤i∧i ≠ σ1.next + 3) fun i hi hlt=>⟨old11 i (by omega) (by omega),by omega,by omega,by omega⟩
  have hrad:=fun hb=>(hrad hb).to (σ':=σ11) (ok':=fun i=>σ1.next≤i∧i ≠ σ1.next + 3) fun i hi hlt=>⟨old11 i (by omega) (by omega),by omega,by omega,by omega⟩
  have hunv:=fun hb=>(hunv hb).to (σ':=σ11) (ok':=fun i=>σ1.next≤i∧i ≠ σ1.next + 3) fun i hi hlt=>⟨old11 i (by omega) (by omega),by omega,by omega,by omega⟩
  have hspr:=fun hb=>(hspr hb).to (σ':=σ11) (ok':=fun i=>σ1.next≤i∧i ≠ σ1.next + 3) fun i hi hlt=>⟨by rw [← hσ11,St.get_put,if_neg (by omega)],by omega,by omega,by omega⟩
  refine Qb (o_max4) ?_
  refine Qb (o_ner) ?_
  have fin:∀ σ',Gr σ11 σ'→Wd c = true→Yl (bnd (Xp (C M) 45 []) (fun v27=>bnd (stO (C M) 45 (P (σ.next + 1) 0) v27) fun _=>Qo (C M) [(some 45,P (σ.next + 1) 0),(none,I 1)]) σ') (fun v σ'=>Gr σ σ'∧((Wd c = true∧v = .tup [.agg W0,I 1]) ∨ (Wd c = false∧∃ cs,v = .tup [.agg cs,I 0]∧RepL (fun i=>σ.next≤i) σ' cs (newB c).d))):=by
    intro σ' hg hb
    have:=hg.1
    refine Qb (bld69z) ?_
    refine Yj (X1 ((hg.2 _ (by omega)).trans hr11) rfl sz45 rfl rfl) ?_
    exact Vs (Y7 (by rw [St.get_put,if_pos rfl]) rfl ag45 sz45 rfl) ⟨⟨by rw [St.next_put]; omega,fun i hi=>by rw [St.get_put,if_neg (by omega),hg.2 i (by omega),e11 i hi]⟩,.inl ⟨hb,rfl⟩⟩
  cases hbad:(((Y6 c.bk c.en c.vo c.lr c.lc || radBad c.fb c.fh c.rr c.rc) || Vp c.lv c.sr c.sc c.tp) || Ve c.xr c.xc c.ml c.mb) with
  | true=>
    refine Xo rfl ?_
    refine Xo rfl ?_
    refine Xo rfl ?_
    refine Qb (rfl) ?_
    refine Xc (rfl) ?_
    exact fin _ (Gr.refl _) (by unfold Wd; rw [hbad]; rfl)
  | false=>
    have hbad':=hbad
    simp only [Bool.or_eq_false_iff] at hbad'
    obtain ⟨⟨⟨q1,q2⟩,q3⟩,q4⟩:=hbad'
    have r1:=elsBad_in q1
    have r2:=radBad_in q2
    have r3:=unvBad_in q3
    have r4:=sprBad_in q4
    have hin:InR c:=⟨r1.1,r1.2.1,r1.2.2.1,r1.2.2.2,r2.1,r2.2,r3.1,r3.2.1,r3.2.2.1,r3.2.2.2,r4.1,r4.2.1,r4.2.2.1,r4.2.2.2⟩
    refine Qz rfl (Xq hc11 rfl (X2 ag24 sz24 rfl)) ?_
    refine y_gcyl rfl rfl (small_run (n:=n + 3) ht.t31 hin) fun v σ12 ⟨hv,e12⟩=>?_
    subst hv
    refine Qz rfl (rfl) ?_
    refine Qb (rfl) ?_
    have m12:=e12.1
    cases hsm:Wc c with
    | false=>
      refine Xc (rfl) ?_
      exact fin _ e12 (by unfold Wd; rw [hsm]; simp)
    | true=>
      refine Qx (rfl) ?_
      refine Qb (Xq ((e12.2 (σ1.next + 3) (by omega)).trans b11) rfl (X2 ag45 sz45 rfl)) ?_
      refine Yj (X1 ((e12.2 (σ.next + 1) (by omega)).trans hr11) rfl sz45 rfl rfl) ?_
      refine Vs (Y7 (by rw [St.get_put,if_pos rfl]) rfl ag45 sz45 rfl) ⟨⟨by rw [St.next_put]; omega,fun i hi=>by rw [St.get_put,if_neg (by rw [St.next_push]; omega),e12.2 i (by omega),e11 i hi]⟩,.inr ⟨by unfold Wd; rw [hbad,hsm]; rfl,_,rfl,?_⟩⟩
      have ext:∀ l d,RepL (fun i=>σ1.next≤i∧i ≠ σ1.next + 3) σ11 l d→∀ b,RepL (fun i=>σ.next≤i) (σ12.put (σ.next + 1) b) l d:=fun l d h b=>h.to fun i hi hlt=>⟨by rw [St.get_put,if_neg (by omega),e12.2 i hlt],by rw [St.next_put]; omega,by omega⟩
      have hj:=j11
      subst hrj
      have rj:Rep (fun i=>σ.next≤i) (σ12.put (σ.next + 1) (.cells (c.cells ++ [.int .i64 0,.int .i64 0,.slice (some (Nat.add σ1.next 1,0)) 18 (.to 1)] ++ [w1,w2,w3,w4,w5,w6,w7] ++ [y1,y2,y3,y4,y5] ++ [z1,z2,z3] ++ [s1,s2]) 45 true)) (.slice (some (Nat.add σ1.next 1,0)) 18 (.to 1)) (Ww (List.replicate 18 0)):=by
        refine rep_row (by simp only [Nat.add_eq]; omega) (by rw [St.next_put]; simp only [Nat.add_eq]; omega) ?_
        rw [St.get_put,if_neg (by simp only [Nat.add_eq]; omega),e12.2 _ (by simp only [Nat.add_eq]; omega)]
        exact j11
      have last:RepL (fun i=>σ.next≤i) (σ12.put (σ.next + 1) (.cells (c.cells ++ [.int .i64 0,.int .i64 0,.slice (some (Nat.add σ1.next 1,0)) 18 (.to 1)] ++ [w1,w2,w3,w4,w5,w6,w7] ++ [y1,y2,y3,y4,y5] ++ [z1,z2,z3] ++ [s1,s2]) 45 true)) (c.cells ++ [.int .i64 0,.int .i64 0,.slice (some (Nat.add σ1.next 1,0)) 18 (.to 1)] ++ [w1,w2,w3,w4,w5,w6,w7] ++ [y1,y2,y3,y4,y5] ++ [z1,z2,z3] ++ [s1,s2]) (newB c).d:=by
        unfold Bnk.d
        refine RepL.append (RepL.append (RepL.append (RepL.append (RepL.append ?_ (.cons (.flat rfl) (.cons (.flat rfl) (.cons rj .nil)))) (ext _ _ (hels q1) _)) (ext _ _ (hrad q2) _)) (ext _ _ (hunv q3) _)) (ext _ _ (hspr q4) _)
        exact cfg_rep c
      exact last
end Core
end Go.Proofs.YtjfgdcegpgoobaaGreatDoor
namespace Go.Proofs.YtjfgdcegpgoobaaGreatDoor
open Go.Run Go
namespace Core
open Ty
set_option maxRecDepth 1000000
def Lies (σ:St) (b k:Nat) (cs:List CV):Prop:=∃ blk l,σ.get b = some blk∧Blk.rd (some blk) = some l∧Yo cs.length (Vm k l) = some cs
section
variable {σ σ':St} {b k i n:Nat} {cs cs':List CV} {t:TypeId} {c:CV}
theorem Lies.to (h:Lies σ b k cs) (hg:σ'.get b = σ.get b):Lies σ' b k cs:=by
  obtain ⟨blk,l,h1,h2⟩:=h
  exact ⟨blk,l,hg.trans h1,h2⟩
theorem Lies.of {e:TypeId} {x:Bool} (h:σ.get b = some (.cells cs e x)):Lies σ b 0 cs:=
  ⟨_,cs,h,rfl,by rw [dropN_zero]; exact takeN_len rfl⟩
theorem takeN_fit {α:Type} {n:Nat} {l r:List α} (h:Yo n l = some r):r = l.take n∧n≤l.length:=by
  rcases Nat.lt_or_ge l.length n with hlt | hge
  · exfalso
    have key:∀ (n:Nat) (x:List α),x.length < n→Yo n x = none:=by
      intro n
      induction n with
      | zero=>intro x hx; omega
      | succ n ih=>
        intro x hx
        cases x with
        | nil=>rfl
        | cons a r=>simp only [Yo,ih r (by simpa using hx)]
    rw [key _ _ hlt] at h
    cases h
  · rw [Vb _ _ hge] at h
    cases h
    exact ⟨rfl,hge⟩
theorem Q7 (h:Lies σ b k cs) (ha:Go.Run.isAgg (C M) t = some true) (hs:size (C M) t = some n) (hn:cs.length = n):ldO (C M) t (P b k) σ = .val (.agg cs):=by
  obtain ⟨blk,l,h1,h2,h3⟩:=h
  subst hn
  exact Xq h1 h2 (X2 ha hs h3)
theorem Xt (h:Lies σ b k cs) (ha:Go.Run.isAgg (C M) t = some true) (hs:size (C M) t = some n) (hc:Yo n (Vm i cs) = some cs'):ldO (C M) t (P b (k + i)) σ = .val (.agg cs'):=by
  obtain ⟨blk,l,h1,h2,h3⟩:=h
  refine Xq h1 h2 (X2 ha hs ?_)
  obtain ⟨e1,e2⟩:=takeN_fit h3
  obtain ⟨e3,e4⟩:=takeN_fit hc
  rw [Y9] at e1 e2 e3 e4
  rw [List.length_drop] at e2 e4
  rw [Y9,Vb _ _ (by rw [List.length_drop]; omega),e3]
  congr 1
  conv=>rhs; rw [e1]
  rw [List.drop_take,List.take_take,List.drop_drop]
  congr 1
  omega
theorem Qg (h:Lies σ b k cs) (ha:Go.Run.isAgg (C M) t = some false) (hc:cs[i]? = some c):ldO (C M) t (P b (k + i)) σ = .val (.one c):=by
  obtain ⟨blk,l,h1,h2,h3⟩:=h
  refine Xq h1 h2 (Qq ha ?_)
  obtain ⟨e1,e2⟩:=takeN_fit h3
  rw [Y9] at e1 e2
  rw [nth_get,← hc]
  conv=>rhs; rw [e1]
  have hi:=(List.getElem?_eq_some_iff.mp hc).1
  rw [List.getElem?_take,if_pos hi,List.getElem?_drop]
theorem Q8 (h:Lies σ b k cs) (ha:Go.Run.isAgg (C M) t = some false) (hc:cs[0]? = some c):ldO (C M) t (P b k) σ = .val (.one c):=Qg (i:=0) h ha hc
end
theorem elem_at {σ:St} {ok:Nat→Prop} {t e':TypeId} {sz j:Nat} {cv:CV} {es:List (List DV)} {x:List DV} (hu:und (C M) t = some (.slice e')) (hs:size (C M) e' = some sz) (h:Rep ok σ cv (.sl sz es)) (he:es[j]? = some x) :
    ∃ b k cs,(∀ σ',Q9 (C M) t (.one cv) (I (j:Nat)) σ' = .val (P b k))∧ok b∧b < σ.next∧Lies σ b k cs∧RepL ok σ cs x∧cs.length = sz:=by
  obtain ⟨b,o,cap,blk,l,cs,rfl,h1,h2,h3,h4,h5,h6,h7⟩:=h.elem he
  have hl:=h6.len
  have hj:=(List.getElem?_eq_some_iff.mp he).1
  exact ⟨b,o + j * sz,cs,fun σ'=>o_iad hu hs hj,h1,h2,⟨blk,l,h3,h4,by rw [hl,h7]; exact h5⟩,h6,by omega⟩
theorem len_of {σ σ':St} {ok:Nat→Prop} {t e':TypeId} {ts:List TypeId} {sz:Nat} {cv:CV} {es:List (List DV)} (hu:und (C M) t = some (.slice e')) (h:Rep ok σ cv (.sl sz es)):Qv (C M) .len (t :: ts) [.one cv] σ' = .val (I (es.length:Nat)):=by
  obtain ⟨p,cap,rfl⟩:=h.len
  exact o_len hu
end Core
end Go.Proofs.YtjfgdcegpgoobaaGreatDoor
namespace Go.Proofs.YtjfgdcegpgoobaaGreatDoor
open Go.Run Go
namespace Core
open Ty
def M40:Int:=1099511627776
def Shp {α:Type} (l:List (List α)) (r k:Nat):Prop:=l.length = r∧∀ x ∈ l,x.length = k
theorem Shp.rep {α:Type} {r k:Nat} {x:α}:Shp (List.replicate r (List.replicate k x)) r k:=⟨by simp,fun x hx=>by rw [(List.mem_replicate.mp hx).2]; simp⟩
structure GBkt (room:Int) (b:Bkt):Prop where
  ents:b.ents = []
  ag:0≤b.against∧b.against≤M40
structure GEls (c:Cfg) (s:Els):Prop where
  seed:s.seed = Xa c.seed 30
  room:s.room = c.en
  votes:s.votes = c.vo
  bks:s.buckets.length = c.bk.toNat
  each:∀ b ∈ s.buckets,GBkt c.en b
  lseed:s.lseed = Xa s.seed 1
  most:s.most = 255
  shp:Shp s.rows c.lr.toNat c.lc.toNat
  vals:∀ r ∈ s.rows,∀ n ∈ r,0≤n∧n≤255
structure GCel (x:Cel):Prop where
  xor:x.xor.length = 37
  flows:0≤x.flows∧x.flows≤M40
  packets:0≤x.packets∧x.packets≤M40
  bytes:0≤x.bytes∧x.bytes≤M40
structure GRad (c:Cfg) (s:Rad):Prop where
  seed:s.seed = Xa c.seed 31
  fseed:s.fseed = Xa s.seed 0
  hashes:s.hashes = c.fh
  bits:s.bits.length = c.fb.toNat
  shp:Shp s.rows c.rr.toNat c.rc.toNat
  vals:∀ r ∈ s.rows,∀ x ∈ r,GCel x
structure GLvl (c:Cfg) (seed:Nat) (l:Lvl):Prop where
  seed:l.seed = seed
  shp:Shp l.rows c.sr.toNat c.sc.toNat
  vals:∀ r ∈ l.rows,∀ n ∈ r,-M40≤n∧n≤M40
  top:l.top = []
structure GUnv (c:Cfg) (s:Unv):Prop where
  seed:s.seed = Xa c.seed 32
  room:s.room = c.tp
  len:s.levels.length = c.lv.toNat
  each:∀ j l,s.levels[j]? = some l→GLvl c (Xa s.seed (j + 1)) l
structure GSpb (c:Cfg) (seed:Nat) (b:Spb):Prop where
  seed:b.seed = seed
  shp:Shp b.rows c.ml.toNat c.mb.toNat
  lev:-1≤b.level∧b.level≤16
  none:b.level = -1 ↔ b.source = []∧∀ r ∈ b.rows,∀ x ∈ r,x = false
  src:b.source = [] ∨ b.source.length = 16
structure GSpr (c:Cfg) (s:Spr):Prop where
  seed:s.seed = Xa c.seed 33
  shp:Shp s.rows c.xr.toNat c.xc.toNat
  vals:∀ r ∈ s.rows,∀ x ∈ r,GSpb c (Xa s.seed 0) x
structure GBnk (b:Bnk):Prop where
  cfg:Wd b.cfg = false
  seed:b.cfg.seed < 18446744073709551616
  packets:0≤b.packets∧b.packets≤M40
  bytes:0≤b.bytes∧b.bytes≤M40
  rejs:b.rejects.length = 18
  rej:∀ n ∈ b.rejects,0≤n∧n≤M40
  els:GEls b.cfg b.els
  rad:GRad b.cfg b.rad
  unv:GUnv b.cfg b.unv
  spr:GSpr b.cfg b.spr
theorem newB_good {c:Cfg} (h:Wd c = false) (hs:c.seed < 18446744073709551616):GBnk (newB c):=by
  have rep0:∀ {α:Type} {r k:Nat} {x:α} {P:α→Prop},P x→∀ l ∈ List.replicate r (List.replicate k x),∀ y ∈ l,P y:=by
    intro α r k x P hx l hl y hy
    rw [(List.mem_replicate.mp hl).2] at hy
    rw [(List.mem_replicate.mp hy).2]; exact hx
  refine ⟨h,hs,⟨Int.le_refl 0,(show (0:Int)≤M40 by decide)⟩,⟨Int.le_refl 0,(show (0:Int)≤M40 by decide)⟩,List.length_replicate,fun n hn=>by rw [(List.mem_replicate.mp hn).2]; decide,?_,?_,?_,?_⟩
  · exact ⟨rfl,rfl,rfl,List.length_replicate,fun b hb=>by rw [(List.mem_replicate.mp hb).2]; exact ⟨rfl,by decide⟩,rfl,rfl,.rep,rep0 (by decide)⟩
  · exact ⟨rfl,rfl,rfl,List.length_replicate,.rep,rep0 ⟨rfl,by decide,by decide,by decide⟩⟩
  · refine ⟨rfl,rfl,by simp [newB,newUnv],fun j l hl=>?_⟩
    simp only [newB,newUnv,List.getElem?_map,Option.map_eq_some_iff] at hl
    obtain ⟨i,hi,rfl⟩:=hl
    rw [List.getElem?_eq_some_iff] at hi
    obtain ⟨_,hi⟩:=hi
    rw [List.getElem_range] at hi
    subst hi
    exact ⟨rfl,.rep,rep0 (by decide),rfl⟩
  · exact ⟨rfl,.rep,rep0 ⟨rfl,.rep,(show (-1:Int)≤-1∧(-1:Int)≤16 by decide),⟨fun _=>⟨rfl,rep0 rfl⟩,fun _=>rfl⟩,.inl rfl⟩⟩
end Core
end Go.Proofs.YtjfgdcegpgoobaaGreatDoor
namespace Go.Proofs.YtjfgdcegpgoobaaGreatDoor
open Go.Run Go
namespace Core
open Ty
set_option maxRecDepth 1000000
abbrev Fr (tab:Tab):Prop:=∀ f,Nat.beq f 8 = false→tab f = none
section
variable {cx:Cx} {t:TypeId} {σ σ':St} {o:St→Out} {a c:Int} {Q:AV→St→Prop} {k:AV→Kt}
theorem Qe {X:Out} (h:o σ = X):gdO (some true) o σ = X:=h
theorem Vr:gdO (some false) o σ = .val (.tup []):=rfl
theorem Xi (h:a < c):Qi cx .lss t (I a) (I c) σ = .val (B true):=by rw [V3,decide_eq_true h]
theorem Q4 (h:c≤a):Qi cx .lss t (I a) (I c) σ = .val (B false):=by rw [V3,decide_eq_false (by omega)]
theorem k_gtrT (h:c < a):Qi cx .gtr t (I a) (I c) σ = .val (B true):=by rw [o_gtr,decide_eq_true h]
theorem Wy (h:a≤c):Qi cx .gtr t (I a) (I c) σ = .val (B false):=by rw [o_gtr,decide_eq_false (by omega)]
theorem k_leqT (h:a≤c):Qi cx .leq t (I a) (I c) σ = .val (B true):=by rw [o_leq,decide_eq_false (by omega)]; rfl
theorem k_geqT (h:c≤a):Qi cx .geq t (I a) (I c) σ = .val (B true):=by rw [o_geq,decide_eq_false (by omega)]; rfl
theorem k_geqF (h:a < c):Qi cx .geq t (I a) (I c) σ = .val (B false):=by rw [o_geq,decide_eq_true h]; rfl
theorem J6 (h:a = c):Qi cx .eql t (I a) (I c) σ = .val (B true):=by rw [o_eql,h]; simp
theorem k_eqlF (h:a ≠ c):Qi cx .eql t (I a) (I c) σ = .val (B false):=by rw [o_eql,beq_eq_false_iff_ne.mpr h]
theorem Xd (h:a = c):Qi cx .neq t (I a) (I c) σ = .val (B false):=by rw [o_neq,h]; simp
theorem u_eqlT (h:a = c):Qi cx .eql t (Iu a) (Iu c) σ = .val (B true):=by subst h; show Out.val (B (Yp a a)) = _; rw [Yd]; simp
theorem u_neqF (h:a = c):Qi cx .neq t (Iu a) (Iu c) σ = .val (B false):=by subst h; show Out.val (B (!Yp a a)) = _; rw [Yd]; simp
theorem s_neqF {x y:List UInt8} (h:x = y):Qi cx .neq t (S x) (S y) σ = .val (B false):=by rw [o_sneq,decide_eq_true h]; rfl
theorem s_neqT {x y:List UInt8} (h:x ≠ y):Qi cx .neq t (S x) (S y) σ = .val (B true):=by rw [o_sneq,decide_eq_false h]; rfl
theorem s_eqlT {x y:List UInt8} (h:x = y):Qi cx .eql t (S x) (S y) σ = .val (B true):=by rw [o_seql,decide_eq_true h]
theorem s_eqlF {x y:List UInt8} (h:x ≠ y):Qi cx .eql t (S x) (S y) σ = .val (B false):=by rw [o_seql,decide_eq_false h]
theorem o_addw (h1:-9223372036854775808≤a + c) (h2:a + c < 9223372036854775808):Qi cx .add t (I a) (I c) σ = .val (I (a + c)):=by rw [o_add,Xw h1 h2]
theorem Xy {j:Nat} (h:j < 9223372036854775807):Qi cx .add t (I (j:Nat)) (I 1) σ = .val (I ((j + 1:Nat):Int)):=by rw [o_add,Xw (by omega) (by omega)]; rfl
theorem box_of {l:List CV}:Z2 t (.agg l) σ = .new (.cells l t true) (fun a=>P a 0):=rfl
end
section
variable {σ:St} {x y:Bool}
theorem b_neq:Qi (C M) .neq 4 (B x) (B y) σ = .val (B (!(x == y))):=by cases x <;> cases y <;> kernel_rfl
theorem b_eql:Qi (C M) .eql 4 (B x) (B y) σ = .val (B (x == y)):=by cases x <;> cases y <;> kernel_rfl
theorem b_neqF (h:x = y):Qi (C M) .neq 4 (B x) (B y) σ = .val (B false):=by rw [b_neq,h]; simp
def chainE:List Bool→Option Bool
  | []=>some true
  | b :: r=>match some b with
    | some true=>chainE r
    | r=>r
theorem chainE_true {l:List Bool} (h:∀ b ∈ l,b = true):chainE l = some true:=by
  induction l with
  | nil=>rfl
  | cons b r ih=>
    have hb:=h b (by simp)
    subst hb
    exact ih fun x hx=>h x (by simp [hx])
theorem cfg_self {c:Cfg}:Qi (C M) .neq 24 (.agg c.cells) (.agg c.cells) σ = .val (B false):=by
  have e:eqA (C M) 10000 24 (.agg c.cells) (.agg c.cells) = chainE [Yp (c.seed:Nat) (c.seed:Nat),Yp c.bk c.bk,Yp c.en c.en,Yp c.vo c.vo,Yp c.lr c.lr,Yp c.lc c.lc,Yp c.fb c.fb,Yp c.fh c.fh,Yp c.rr c.rr,Yp c.rc c.rc,Yp c.lv c.lv,Yp c.sr c.sr,Yp c.sc c.sc,Yp c.tp c.tp,Yp c.xr c.xr,Yp c.xc c.xc,Yp c.ml c.ml,Yp c.mb c.mb]:=by kernel_rfl
  have e2:=e.trans (chainE_true (by simp [Yd]))
  have g:(C M).P.eqGuardType (C M).P.depth 24 = false:=by kernel_rfl
  show (bif (C M).P.eqGuardType (C M).P.depth 24 then Out.no else match eqA (C M) 10000 24 (.agg c.cells) (.agg c.cells) with | some b=>boolV (notIf true b) | none=>.no) = _
  rw [g,e2]; rfl
theorem cel_self {x:Cel}:Qi (C M) .neq 98 (.agg [.str ⟨⟨x.xor⟩⟩,.int .i64 x.flows,.int .i64 x.packets,.int .i64 x.bytes]) (.agg [.str ⟨⟨x.xor⟩⟩,.int .i64 x.flows,.int .i64 x.packets,.int .i64 x.bytes]) σ = .val (B false):=by
  have e:eqA (C M) 10000 98 (.agg [.str ⟨⟨x.xor⟩⟩,.int .i64 x.flows,.int .i64 x.packets,.int .i64 x.bytes]) (.agg [.str ⟨⟨x.xor⟩⟩,.int .i64 x.flows,.int .i64 x.packets,.int .i64 x.bytes]) = chainE [Vf (Q0 ⟨⟨x.xor⟩⟩) (Q0 ⟨⟨x.xor⟩⟩),Yp x.flows x.flows,Yp x.packets x.packets,Yp x.bytes x.bytes]:=by kernel_rfl
  have e2:=e.trans (chainE_true (by simp [Yd,Y8]))
  have g:(C M).P.eqGuardType (C M).P.depth 98 = false:=by kernel_rfl
  show (bif (C M).P.eqGuardType (C M).P.depth 98 then Out.no else match eqA (C M) 10000 98 _ _ with | some b=>boolV (notIf true b) | none=>.no) = _
  rw [g,e2]; rfl
end
def At (σ:St) (b k:Nat) (cs:List CV):Prop:=b < σ.next∧Lies σ b k cs
section
variable {t:TypeId} {σ σ':St} {o:St→Out} {Q:AV→St→Prop} {k:AV→Kt} {b i n q:Nat} {cs l:List CV} {c:CV}
theorem At.ext (h:At σ b q cs) (e:Gr σ σ'):At σ' b q cs:=⟨Nat.lt_of_lt_of_le h.1 e.1,h.2.to (e.2 b h.1)⟩
theorem Yn (h:∀ σ' b,Gr σ σ'→At σ' b 0 l→σ.next≤b→Yl (k (P b 0) σ') Q):Yl (bnd (Z2 t (.agg l)) k σ) Q:=
  Ye box_of (h _ _ (Gr.push _ _) ⟨by rw [St.next_push]; omega,Lies.of (by rw [St.get_push,if_pos rfl])⟩ (Nat.le_refl _))
theorem y_cpy {k:AV→AV→Kt} {z:List CV} (hz:Xe (C M) t σ = .new (.cells z t true) (fun a=>P a 0)) (hs:size (C M) t = some n) (hn:l.length = n) (hl:z.length = n)
    (h:∀ σ' b,Gr σ σ'→At σ' b 0 l→σ.next≤b→Yl (k (P b 0) (.tup []) σ') Q):Yl (bnd (Xe (C M) t) (fun v=>bnd (stO (C M) t v (.agg l)) (k v)) σ) Q:=by
  refine Ye hz (Yj (X1 (l':=l) (by rw [St.get_push,if_pos rfl]) rfl hs (by rw [Yx]; exact hn) ?_) (h _ _ ((Gr.push _ _).put _ (Nat.le_refl _)) ⟨by rw [St.next_put,St.next_push]; omega,Lies.of (by rw [St.get_put,if_pos rfl])⟩ (Nat.le_refl _)))
  have:=Ji l z [] (by omega)
  simpa using this
theorem Yb {L:Nat→Nat→St→Rs} {n:Nat} (Inv:Nat→St→Prop)
    (step:∀ f j σ,j < n→Inv j σ→(∀ σ',Inv (j + 1) σ'→Yl (L f (j + 1) σ') Q)→Yl (L (f + 1) j σ) Q)
    (last:∀ f σ,Inv n σ→Yl (L (f + 1) n σ) Q) (s f:Nat) (σ:St) (hs:s≤n) (hf:n < f + s) (h:Inv s σ):Yl (L f s σ) Q:=by
    have key:∀ (d j f:Nat) (σ:St),j + d = n→d < f→Inv j σ→Yl (L f j σ) Q:=by
      intro d
      induction d with
      | zero=>
        intro j f σ hj hf h
        obtain ⟨g,rfl⟩:∃ g,f = g + 1:=⟨f - 1,by omega⟩
        have:j = n:=by omega
        subst this
        exact last g σ h
      | succ d ih=>
        intro j f σ hj hf h
        obtain ⟨g,rfl⟩:∃ g,f = g + 1:=⟨f - 1,by omega⟩
        exact step g j σ (by omega) h fun σ' h'=>ih (j + 1) g σ' (by omega) (by omega) h'
    exact key (n - s) s f σ (by omega) (by omega) h
end
theorem elem {σ:St} {ok:Nat→Prop} {t e':TypeId} {sz j:Nat} {cv:CV} {es:List (List DV)} {x:List DV} (hu:und (C M) t = some (.slice e')) (hs:size (C M) e' = some sz) (h:Rep ok σ cv (.sl sz es)) (he:es[j]? = some x) :
    ∃ b k cs,(∀ σ',Q9 (C M) t (.one cv) (I (j:Nat)) σ' = .val (P b k))∧ok b∧At σ b k cs∧RepL ok σ cs x∧cs.length = sz:=by
  obtain ⟨b,k,cs,h1,h2,h3,h4,h5,h6⟩:=elem_at hu hs h he
  exact ⟨b,k,cs,h1,h2,⟨h3,h4⟩,h5,h6⟩
section
variable {ok:Nat→Prop} {σ:St} {cs:List CV} {a b c d e f g h:DV}
theorem rl0 (p:RepL ok σ cs []):cs = []:=by cases p; rfl
theorem rlc {l:List DV} (p:RepL ok σ cs (a :: l)):∃ x r,cs = x :: r∧Rep ok σ x a∧RepL ok σ r l:=by
  cases p with
  | cons h t=>exact ⟨_,_,rfl,h,t⟩
theorem rl1 (p:RepL ok σ cs [a]):∃ x,cs = [x]∧Rep ok σ x a:=by
  obtain ⟨x,r,rfl,h1,t⟩:=rlc p; obtain rfl:=rl0 t; exact ⟨x,rfl,h1⟩
theorem rl2 (p:RepL ok σ cs [a,b]):∃ x y,cs = [x,y]∧Rep ok σ x a∧Rep ok σ y b:=by
  obtain ⟨x,r,rfl,h1,t⟩:=rlc p; obtain ⟨y,rfl,h2⟩:=rl1 t; exact ⟨x,y,rfl,h1,h2⟩
theorem rl3 (p:RepL ok σ cs [a,b,c]):∃ x y z,cs = [x,y,z]∧Rep ok σ x a∧Rep ok σ y b∧Rep ok σ z c:=by
  obtain ⟨x,r,rfl,h1,t⟩:=rlc p; obtain ⟨y,z,rfl,h2,h3⟩:=rl2 t; exact ⟨x,y,z,rfl,h1,h2,h3⟩
theorem rl4 (p:RepL ok σ cs [a,b,c,d]):∃ x y z u,cs = [x,y,z,u]∧Rep ok σ x a∧Rep ok σ y b∧Rep ok σ z c∧Rep ok σ u d:=by
  obtain ⟨x,r,rfl,h1,t⟩:=rlc p; obtain ⟨y,z,u,rfl,h2,h3,h4⟩:=rl3 t; exact ⟨x,y,z,u,rfl,h1,h2,h3,h4⟩
theorem rl5 (p:RepL ok σ cs [a,b,c,d,e]):∃ x y z u v,cs = [x,y,z,u,v]∧Rep ok σ x a∧Rep ok σ y b∧Rep ok σ z c∧Rep ok σ u d∧Rep ok σ v e:=by
  obtain ⟨x,r,rfl,h1,t⟩:=rlc p; obtain ⟨y,z,u,v,rfl,h2,h3,h4,h5⟩:=rl4 t; exact ⟨x,y,z,u,v,rfl,h1,h2,h3,h4,h5⟩
theorem rl7 (p:RepL ok σ cs [a,b,c,d,e,f,g]):∃ x y z u v w s,cs = [x,y,z,u,v,w,s]∧Rep ok σ x a∧Rep ok σ y b∧Rep ok σ z c∧Rep ok σ u d∧Rep ok σ v e∧Rep ok σ w f∧Rep ok σ s g:=by
  obtain ⟨x,r,rfl,h1,t⟩:=rlc p; obtain ⟨y,r,rfl,h2,t⟩:=rlc t; obtain ⟨z,u,v,w,s,rfl,h3,h4,h5,h6,h7⟩:=rl5 t; exact ⟨x,y,z,u,v,w,s,rfl,h1,h2,h3,h4,h5,h6,h7⟩
theorem RepL.split:∀ {a b:List DV} {cs:List CV},RepL ok σ cs (a ++ b)→∃ x y,cs = x ++ y∧RepL ok σ x a∧RepL ok σ y b
  | [],_,cs,h=>⟨[],cs,rfl,.nil,h⟩
  | _ :: _,_,_,h=>by
    obtain ⟨x,r,rfl,h1,t⟩:=rlc h
    obtain ⟨u,v,rfl,h2,h3⟩:=RepL.split t
    exact ⟨x :: u,v,rfl,.cons h1 h2,h3⟩
end
theorem get_map {α β:Type} {f:α→β} {l:List α} {j:Nat} {x:α} (h:l[j]? = some x):(l.map f)[j]? = some (f x):=by rw [List.getElem?_map,h]; rfl
theorem Q6 {α:Type} {l:List α} {j:Nat} (h:j < l.length):∃ x,l[j]? = some x:=⟨l[j],List.getElem?_eq_getElem h⟩
end Core
end Go.Proofs.YtjfgdcegpgoobaaGreatDoor
