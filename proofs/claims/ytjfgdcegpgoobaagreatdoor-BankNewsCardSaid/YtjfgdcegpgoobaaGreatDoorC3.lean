/- Slices that are made by appending. -/
import Derived.Test.YtjfgdcegpgoobaaGreatDoorC2
import Derived.Test.YtjfgdcegpgoobaaGreatDoorFx7
set_option linter.unusedVariables false
namespace Go.Proofs.YtjfgdcegpgoobaaGreatDoor
open Go.Run Go
namespace Core
open Ty
set_option maxRecDepth 1000000
def Bld (base lo:Nat) (σ:St) (sz:Nat) (e:TypeId) (cv:CV) (es:List (List DV)):Prop:=
  ∃ l,Own lo σ sz e cv l∧l.length = es.length * (sz + 1)∧RepL (fun i=>(i < base ∨ lo≤i)∧¬ X5 cv i) σ l es.flatten∧∀ x ∈ es,x.length = sz + 1
section
variable {base lo sz:Nat} {σ σ':St} {e:TypeId} {cv:CV} {es:List (List DV)}
theorem Bld.nil:Bld base lo σ sz e (.slice none 0 (.ex 0)) []:=⟨[],Own.nil,by simp,.nil,fun x hx=>by cases hx⟩
theorem Bld.at (h:Bld base lo σ sz e cv es) {i:Nat} (hi:X5 cv i):lo≤i∧i < σ.next:=by
  obtain ⟨l,ho,_⟩:=h
  obtain ⟨n,c,rfl⟩:=hi
  rcases ho with ⟨h,_⟩ | ⟨k',n',h,hk',hk2,_⟩
  · cases h
  · cases h; exact ⟨hk',hk2⟩
theorem Bld.to (h:Bld base lo σ sz e cv es) (hn:σ.next≤σ'.next) (hg:∀ i,i < base ∨ lo≤i→i < σ.next→σ'.get i = σ.get i):Bld base lo σ' sz e cv es:=by
  have hat:=fun i (hi:X5 cv i)=>h.at hi
  obtain ⟨l,ho,hl,hr,hx⟩:=h
  exact ⟨l,ho.to hn fun i hi=>hg i (.inr (hat i hi).1) (hat i hi).2,hl,hr.to fun i hi hlt=>⟨hg i hi.1 hlt,by omega,hi⟩,hx⟩
theorem Bld.ext (h:Bld base lo σ sz e cv es) (g:Gr σ σ'):Bld base lo σ' sz e cv es:=h.to g.1 fun i _ hi=>g.2 i hi
theorem Bld.rep {ok:Nat→Prop} (h:Bld base lo σ sz e cv es) (hok:∀ i,i < base ∨ lo≤i→ok i):Rep ok σ cv (.sl (sz + 1) es):=by
  have hat:=fun i (hi:X5 cv i)=>h.at hi
  obtain ⟨l,ho,hl,hr,hx⟩:=h
  exact ho.rep (fun i hi=>hok i (.inr (hat i hi).1)) hx (hr.to fun i hi hlt=>⟨rfl,hlt,hok i hi.1⟩)
theorem y_app {t by':Nat} {x:List DV} {new:List CV} {xv:AV} {k:AV→Kt} {Q:AV→St→Prop} (hu:und (C M) t = some (.slice e)) (hi:((C M).P.info? e).map (fun t=>(t.size,t.bytes)) = some (sz + 1,by')) (hno:noInt (C M) [t] = true) (hrow:(Na (C M) e (sz + 1) 1).isSome = true) (hby:by'≤10000)
    (hb:Vi (C M) t 1 [(0,xv)] σ = .new (.cells new e true) (fun i=>.one (.slice (some (i,0)) 1 (.to (sz + 1))))) (h:Bld base lo σ sz e cv es) (hlo:lo≤σ.next) (hx:RepL (fun i=>(i < base ∨ lo≤i)∧¬ X5 cv i) σ new x) (hxl:x.length = sz + 1) (hes:es.length * (sz + 1)≤1000000)
    (hk:∀ σ' cv',Bld base lo σ' sz e cv' (es ++ [x])→σ.next≤σ'.next→(∀ i,i < σ.next→¬ X5 cv i→σ'.get i = σ.get i)→Yl (k (.one cv') σ') Q) :
    Yl (bnd (Vi (C M) t 1 [(0,xv)]) (fun v=>bnd (Qv (C M) .append [t,t] [.one cv,v]) k) σ) Q:=by
  have hat:=fun i (hi:X5 cv i)=>h.at hi
  obtain ⟨l,ho,hl,hr,hxs⟩:=h
  refine Ye hb ?_
  have e1:Gr σ (σ.push (.cells new e true)):=Gr.push _ _
  have ho':Own lo (σ.push (.cells new e true)) sz e cv l:=ho.to e1.1 fun i hi=>e1.2 i (hat i hi).2
  obtain ⟨cv',σ2,q1,q2,q3,q4,q5⟩:=Wr (t:=t) (cx:=C M) (vb:=σ.next) hu hi hno hrow ho' (by rw [St.next_push]; omega) (by rw [St.get_push,if_pos rfl]) rfl (by rw [hx.len,hxl]) (by omega) hby
  have n1:(σ.push (.cells new e true)).next = σ.next + 1:=rfl
  refine Yj q1 (hk σ2 cv' ⟨l ++ new,q2,?_,?_,?_⟩ (by omega) fun i hi hne=>by rw [q4 i (by omega) hne,e1.2 i hi])
  · rw [List.length_append,hl,hx.len,hxl,List.length_append,Nat.add_mul]; simp
  · rw [List.flatten_append,List.flatten_cons,List.flatten_nil,List.append_nil]
    refine RepL.append ?_ ?_
    · exact hr.to fun i hi hlt=>⟨by rw [q4 i (by omega) hi.2,e1.2 i hlt],by omega,hi.1,fun hat'=>by have:=q5 i hat'; omega⟩
    · exact hx.to fun i hi hlt=>⟨by rw [q4 i (by omega) hi.2,e1.2 i hlt],by omega,hi.1,fun hat'=>by have:=q5 i hat'; omega⟩
  · intro y hy
    rcases List.mem_append.mp hy with hy | hy
    · exact hxs y hy
    · rw [List.mem_singleton.mp hy]; exact hxl
end
section
variable {σ:St} {c c1 c2 c3 c4:CV}
theorem bs1_27:Vi (C M) 27 1 [(0,.one c)] σ = .new (.cells [c] 25 true) (fun i=>.one (.slice (some (i,0)) 1 (.to (0 + 1)))):=by kernel_rfl
theorem bs1_56:Vi (C M) 56 1 [(0,.one c)] σ = .new (.cells [c] 95 true) (fun i=>.one (.slice (some (i,0)) 1 (.to (0 + 1)))):=by kernel_rfl
theorem bs1_62:Vi (C M) 62 1 [(0,.one c)] σ = .new (.cells [c] 112 true) (fun i=>.one (.slice (some (i,0)) 1 (.to (0 + 1)))):=by kernel_rfl
theorem bs1_113:Vi (C M) 113 1 [(0,.one c)] σ = .new (.cells [c] 32 true) (fun i=>.one (.slice (some (i,0)) 1 (.to (0 + 1)))):=by kernel_rfl
theorem bs2_51:Vi (C M) 51 1 [(0,.agg [c,c1])] σ = .new (.cells [c,c1] 90 true) (fun i=>.one (.slice (some (i,0)) 1 (.to (1 + 1)))):=by kernel_rfl
theorem bs3_88:Vi (C M) 88 1 [(0,.agg [c,c1,c2])] σ = .new (.cells [c,c1,c2] 93 true) (fun i=>.one (.slice (some (i,0)) 1 (.to (2 + 1)))):=by kernel_rfl
theorem bs4_95:Vi (C M) 95 1 [(0,.agg [c,c1,c2,c3])] σ = .new (.cells [c,c1,c2,c3] 98 true) (fun i=>.one (.slice (some (i,0)) 1 (.to (3 + 1)))):=by kernel_rfl
theorem bs3_59:Vi (C M) 59 1 [(0,.agg [c,c1,c2])] σ = .new (.cells [c,c1,c2] 107 true) (fun i=>.one (.slice (some (i,0)) 1 (.to (2 + 1)))):=by kernel_rfl
theorem bs2_105:Vi (C M) 105 1 [(0,.agg [c,c1])] σ = .new (.cells [c,c1] 110 true) (fun i=>.one (.slice (some (i,0)) 1 (.to (1 + 1)))):=by kernel_rfl
theorem bs4_112:Vi (C M) 112 1 [(0,.agg [c,c1,c2,c3])] σ = .new (.cells [c,c1,c2,c3] 120 true) (fun i=>.one (.slice (some (i,0)) 1 (.to (3 + 1)))):=by kernel_rfl
end
section
variable {n:Nat} {σ:St} {tab:Tab}
theorem noughts_run (ht:Fr tab) {r k:Nat} (hr:r≤1000) (hk:1≤k∧k≤1000) :
    Yl (Ql (C M) tab (n + 1) 32 [I (r:Nat),I (k:Nat)] σ) (fun v σ'=>Gr σ σ'∧∃ cv,v = .one cv∧Rep (fun i=>σ.next≤i) σ' cv (V1 (List.replicate r (List.replicate k 0)))):=by
  refine Q3 (ht _ rfl) Tryz.func32 (by kernel_rfl) ?_
  rw [F32_eq]
  unfold K32_0 K32_1 K32_2 K32_4
  refine y_fora (L:=fun f' j cv s=>L32_5 M (Ql (C M) tab n) f' (I (r:Nat)) (I (k:Nat)) (.one cv) (I (j:Nat)) s) (n:=r) (fun j cv s=>Gr σ s∧Bld 0 σ.next s 0 25 cv (List.replicate j [Ww (List.replicate k 0)])) (fun f' j cv s hj hi hkk=>?_) (fun f' cv s hi=>?_) 0 M (.slice none 0 (.ex 0)) σ (by omega) (by unfold M; omega) ⟨Gr.refl _,Bld.nil⟩
  · obtain ⟨e,hb⟩:=hi
    rw [L32_5_succ]
    unfold L32_5_b
    refine Qb (Xi (by omega)) ?_
    refine Xc (rfl) ?_
    unfold K32_6
    have hat:=fun i (hi:X5 cv i)=>hb.at hi
    have e1:=e.1
    refine Ye (mks3 (by omega) (by omega)) ?_
    generalize hs1:s.push (.cells (List.replicate k (.int .i64 0)) 3 true) = s1
    have n1:s1.next = s.next + 1:=by rw [← hs1]; rfl
    have g1:Gr s s1:=by rw [← hs1]; exact Gr.push _ _
    have b1:s1.get s.next = some (.cells (List.replicate k (.int .i64 0)) 3 true):=by rw [← hs1,St.get_push,if_pos rfl]
    refine y_app Jj in25 (by kernel_rfl) (by kernel_rfl) (by decide) bs1_27 (hb.ext g1) (by omega) (x:=[Ww (List.replicate k 0)]) (.cons ?_ .nil) rfl (by simp; omega) fun s2 cv' hb2 n2 g2=>?_
    · exact rep_row ⟨.inr (by omega),fun h=>by have:=hat _ h; omega⟩ (by omega) b1
    · unfold K32_7
      refine Qb (Xy (by omega)) ?_
      refine hkk cv' s2 ⟨⟨by omega,fun i hi=>by rw [g2 i (by omega) (fun h=>by have:=hat _ h; omega),g1.2 i (by omega),e.2 i hi]⟩,?_⟩
      rw [List.replicate_succ']; exact hb2
  · obtain ⟨e,hb⟩:=hi
    rw [L32_5_succ]
    unfold L32_5_b
    refine Qb (Q4 (by omega)) ?_
    refine Qx (rfl) ?_
    unfold K32_3
    refine Qs ⟨e,cv,rfl,?_⟩
    have:=hb.rep (ok:=fun i=>σ.next≤i) (fun i hi=>by omega)
    unfold V1
    rw [List.map_replicate]
    exact this
theorem dadd_run (ht:Fr tab) {a b:Nat}:Ql (C M) tab (n + 1) 82 [Iu (a:Nat),Iu (b:Nat)] σ = some (Iu (addP a b:Nat),σ):=by
  refine Xf (ht _ rfl) Tryz.func82 (by kernel_rfl) ?_
  rw [F82_eq]
  refine Yl.eq ?_
  unfold K82_0
  have h1:=lt_PR a
  have h2:=lt_PR b
  refine Qb (ou_rem (b:=2305843009213693951) (by decide)) ?_
  refine Qb (ou_rem (b:=2305843009213693951) (by decide)) ?_
  refine Qb (ou_add) ?_
  rw [Nat.mod_eq_of_lt (show a % 2305843009213693951 + b % 2305843009213693951 < 18446744073709551616 by omega)]
  refine Qb (ou_rem (b:=2305843009213693951) (by decide)) ?_
  exact Qs ⟨rfl,rfl⟩
theorem dmul_run (ht:Fr tab) {a b:Nat}:Ql (C M) tab (n + 1) 81 [Iu (a:Nat),Iu (b:Nat)] σ = some (Iu (mulP a b:Nat),σ):=by
  refine Xf (ht _ rfl) Tryz.func81 (by kernel_rfl) ?_
  rw [F81_eq]
  refine Yl.eq ?_
  unfold K81_0 K81_1 K81_2
  have h1:=lt_PR a
  have h2:=lt_PR b
  refine Qb (ou_rem (b:=2305843009213693951) (by decide)) ?_
  refine Qb (ou_rem (b:=2305843009213693951) (by decide)) ?_
  unfold K81_3
  have red:∀ acc z h:Nat,(acc % PR + z % PR * h) % PR = (acc + z * h) % PR:=fun acc z h=>by
    rw [Nat.add_mod,Nat.mul_mod,Nat.mod_mod,Nat.mod_mod,← Nat.mul_mod,← Nat.add_mod]
  have key:∀ (f g:Nat) (x y acc:Nat),f < g→x < 2305843009213693951→y < 2 ^ f→y < 2305843009213693951→acc < 2305843009213693951 →
      Yl (L81_5 M (Ql (C M) tab n) g (Iu (x:Nat)) (Iu (y:Nat)) (Iu (acc:Nat)) σ) (fun v s=>v = Iu (((acc + x * y) % PR:Nat):Int)∧s = σ):=by
    intro f
    induction f with
    | zero=>
      intro g x y acc hg hx hy hy2 ha
      obtain ⟨g',rfl⟩:∃ g',g = g' + 1:=⟨g - 1,by omega⟩
      have:y = 0:=by simpa using hy
      subst this
      rw [L81_5_succ]
      unfold L81_5_b
      refine Qb (ou_gtr (b:=0)) ?_
      refine Qx (decide_eq_false (by omega)) ?_
      unfold J5
      refine Qs ⟨?_,rfl⟩
      rw [Nat.mul_zero,Nat.add_zero,Nat.mod_eq_of_lt (show acc < PR from ha)]
    | succ f ih=>
      intro g x y acc hg hx hy hy2 ha
      obtain ⟨g',rfl⟩:∃ g',g = g' + 1:=⟨g - 1,by omega⟩
      rw [L81_5_succ]
      unfold L81_5_b
      refine Qb (ou_gtr (b:=0)) ?_
      by_cases h0:0 < y
      · refine Xc (decide_eq_true h0) ?_
        unfold K81_6
        refine Qb (ou_rem (b:=2) (by decide)) ?_
        refine Qb (ou_eql (b:=1)) ?_
        have hp:2 ^ (f + 1) = 2 ^ f * 2:=Nat.pow_succ 2 f
        have hx2:=lt_PR (x + x)
        have hax:=lt_PR (acc + x)
        by_cases ho:y % 2 = 1
        · refine Xc (decide_eq_true ho) ?_
          refine Qb (ou_add) ?_
          rw [Nat.mod_eq_of_lt (show acc + x < 18446744073709551616 by omega)]
          refine Qb (ou_rem (b:=2305843009213693951) (by decide)) ?_
          unfold K81_7
          refine Qb (ou_add) ?_
          rw [Nat.mod_eq_of_lt (show x + x < 18446744073709551616 by omega)]
          refine Qb (ou_rem (b:=2305843009213693951) (by decide)) ?_
          refine Qb (ou_quo (b:=2) (by decide) (by omega)) ?_
          refine Yl.mono (ih g' ((x + x) % PR) (y / 2) ((acc + x) % PR) (by omega) hx2 (by omega) (by omega) hax) fun v s ⟨hv,hs⟩=>⟨?_,hs⟩
          rw [hv,red]
          have:acc + x + (x + x) * (y / 2) = acc + x * y:=by
            have hy':y = 2 * (y / 2) + 1:=by omega
            conv=>rhs; rw [hy']
            rw [Nat.mul_add,Nat.mul_one,← Nat.two_mul,← Nat.mul_assoc,Nat.mul_comm x 2]
            omega
          rw [this]
        · refine Qx (decide_eq_false ho) ?_
          unfold K81_7
          refine Qb (ou_add) ?_
          rw [Nat.mod_eq_of_lt (show x + x < 18446744073709551616 by omega)]
          refine Qb (ou_rem (b:=2305843009213693951) (by decide)) ?_
          refine Qb (ou_quo (b:=2) (by decide) (by omega)) ?_
          refine Yl.mono (ih g' ((x + x) % PR) (y / 2) acc (by omega) hx2 (by omega) (by omega) ha) fun v s ⟨hv,hs⟩=>⟨?_,hs⟩
          have h2:=red acc (x + x) (y / 2)
          rw [Nat.mod_eq_of_lt (show acc < PR from ha)] at h2
          rw [hv,h2]
          have:acc + (x + x) * (y / 2) = acc + x * y:=by
            have hy':y = 2 * (y / 2):=by omega
            conv=>rhs; rw [hy']
            rw [← Nat.two_mul,← Nat.mul_assoc,Nat.mul_comm x 2]
          rw [this]
      · refine Qx (decide_eq_false h0) ?_
        unfold J5
        have:y = 0:=by omega
        subst this
        refine Qs ⟨?_,rfl⟩
        rw [Nat.mul_zero,Nat.add_zero,Nat.mod_eq_of_lt (show acc < PR from ha)]
  have:=key 61 M (a % PR) (b % PR) 0 (by decide) h1 (by have:(2:Nat) ^ 61 = 2305843009213693952:=by decide
                                                        omega) h2 (by decide)
  rw [Nat.zero_add] at this
  exact this
theorem dpow2_run (ht:Fr tab) {a:Nat}:Ql (C M) tab (n + 4) 83 [Iu (a:Nat),Iu 2] σ = some (Iu (mulP a a:Nat),σ):=by
  have p0:∀ m,Ql (C M) tab (m + 1) 83 [Iu (a:Nat),Iu 0] σ = some (Iu 1,σ):=fun m=>by
    refine Xf (ht _ rfl) Tryz.func83 (by kernel_rfl) ?_
    rw [F83_eq]
    refine Yl.eq ?_
    unfold K83_0 K83_1
    refine Qb (u_eqlT rfl) ?_
    refine Xc (rfl) ?_
    exact Qs ⟨rfl,rfl⟩
  have one:mulP 1 a = a % PR:=by
    unfold mulP
    rw [show (1:Nat) % PR = 1 from rfl,Nat.one_mul,Nat.mod_mod]
  have p1:∀ m,Ql (C M) tab (m + 2) 83 [Iu (a:Nat),Iu 1] σ = some (Iu ((a % PR:Nat):Int),σ):=fun m=>by
    refine Xf (ht _ rfl) Tryz.func83 (by kernel_rfl) ?_
    rw [F83_eq]
    refine Yl.eq ?_
    unfold K83_0 K83_1
    refine Qb (ou_eql (a:=1) (b:=0)) ?_
    refine Qx (rfl) ?_
    unfold K83_2
    refine Qb (ou_quo (a:=1) (b:=2) (by decide) (by decide)) ?_
    refine Xs rfl (p0 m) ?_
    unfold K83_3
    refine Xs rfl (dmul_run (n:=m) ht (a:=1) (b:=1)) ?_
    unfold K83_4
    refine Qb (ou_rem (a:=1) (b:=2) (by decide)) ?_
    refine Qb (ou_eql (a:=1 % 2) (b:=1)) ?_
    refine Xc (rfl) ?_
    refine Xs rfl (dmul_run (n:=m) ht (a:=1) (b:=a)) ?_
    unfold K83_5
    exact Qs ⟨by rw [one],rfl⟩
  refine Xf (ht _ rfl) Tryz.func83 (by kernel_rfl) ?_
  rw [F83_eq]
  refine Yl.eq ?_
  unfold K83_0 K83_1
  refine Qb (ou_eql (a:=2) (b:=0)) ?_
  refine Qx (rfl) ?_
  unfold K83_2
  refine Qb (ou_quo (a:=2) (b:=2) (by decide) (by decide)) ?_
  refine Xs rfl (p1 (n + 1)) ?_
  unfold K83_3
  refine Xs rfl (dmul_run (n:=n + 2) ht) ?_
  unfold K83_4
  refine Qb (ou_rem (a:=2) (b:=2) (by decide)) ?_
  refine Qb (ou_eql (a:=2 % 2) (b:=1)) ?_
  refine Qx (rfl) ?_
  unfold K83_5
  refine Qs ⟨?_,rfl⟩
  unfold mulP
  rw [Nat.mod_mod]
theorem drow_run (ht:Fr tab) {a:Nat} {b:Int} (hb0:0≤b) (hb:b < 9223372036854775808):Ql (C M) tab (n + 5) 31 [Iu (a:Nat),I b] σ = some (Iu (Xa a b.toNat:Nat),σ):=by
  refine Xf (ht _ rfl) Tryz.func31 (by kernel_rfl) ?_
  rw [F31_eq]
  refine Yl.eq ?_
  unfold K31_0
  unfold K31_1
  refine Qb (Q4 (by omega)) ?_
  refine Qx (rfl) ?_
  unfold K31_2
  obtain ⟨c,rfl⟩:∃ c:Nat,b = (c:Int):=⟨b.toNat,by omega⟩
  refine Xs rfl (dadd_run (n:=n + 3) ht (b:=3)) ?_
  refine Qb (o_cv64 un3 un22 (by omega)) ?_
  refine Xs rfl (dadd_run (n:=n + 3) ht (b:=2)) ?_
  refine Xs rfl (dmul_run (n:=n + 3) ht) ?_
  refine Xs rfl (dadd_run (n:=n + 3) ht (b:=5)) ?_
  refine Xs rfl (dpow2_run (n:=n) ht) ?_
  exact Qs ⟨rfl,rfl⟩
end
end Core
end Go.Proofs.YtjfgdcegpgoobaaGreatDoor
namespace Go.Proofs.YtjfgdcegpgoobaaGreatDoor
open Go.Run Go
namespace Core
open Ty
set_option maxRecDepth 1000000
def inB (x lo hi:Int):Bool:=!decide (x < lo) && !decide (hi < x)
section
variable {n:Nat} {σ:St} {tab:Tab} {Q:AV→St→Prop}
theorem in_run (ht:Fr tab) {x lo hi:Int}:Ql (C M) tab (n + 1) 17 [I x,I lo,I hi] σ = some (B (inB x lo hi),σ):=by
  refine Xf (ht _ rfl) Tryz.func17 (by kernel_rfl) ?_
  rw [F17_eq]
  refine Yl.eq ?_
  unfold K17_0
  refine Qb (o_geq) ?_
  cases h:decide (x < lo) with
  | true=>
    refine Qb (Vr) ?_
    refine Qb (Vr) ?_
    refine Qb (Vr) ?_
    refine Qb (rfl) ?_
    exact Qs ⟨by unfold inB; rw [h]; rfl,rfl⟩
  | false=>
    refine Qb (Qe rfl) ?_
    refine Qb (Qe rfl) ?_
    refine Qb (Qe o_leq) ?_
    refine Qb (rfl) ?_
    exact Qs ⟨by unfold inB; rw [h]; rfl,rfl⟩
theorem y_in (ht:Fr tab) {b:Bool} {x lo hi:Int} {S T p f off:Nat} {k:AV→Kt} (hf:Qh (C M) S (P p 0) f σ = .val (P p (0 + off))) (hl:ldO (C M) T (P p (0 + off)) σ = .val (I x)) (hk:Yl (k (B (b && inB x lo hi)) σ) Q) :
    Yl (bnd (gdO (Qc (B b) true) (Qh (C M) S (P p 0) f)) (fun v3=>bnd (gdO (Qc (B b) true) (ldO (C M) T v3)) fun v4=>bnd (gdO (Qc (B b) true) (Qy (C M) (Ql (C M) tab (n + 1)) (fnV 17) [v4,I lo,I hi])) fun v5=>bnd (Qm (B b) v5 (B false)) k) σ) Q:=by
  cases b with
  | true=>
    refine Qb (Qe hf) ?_
    refine Qb (Qe hl) ?_
    refine V8 rfl rfl (in_run (n:=n) ht) ?_
    refine Qb (rfl) ?_
    exact hk
  | false=>
    refine Qb (Vr) ?_
    refine Qb (Vr) ?_
    refine Qb (Vr) ?_
    refine Qb (rfl) ?_
    exact hk
def odd1 (x:Int):Bool:=Int.tmod x 2 == 1
theorem y_odd {b:Bool} {x:Int} {S T p f off t t2:Nat} {k:AV→Kt} (hf:Qh (C M) S (P p 0) f σ = .val (P p (0 + off))) (hl:ldO (C M) T (P p (0 + off)) σ = .val (I x)) (hk:Yl (k (B (b && odd1 x)) σ) Q) :
    Yl (bnd (gdO (Qc (B b) true) (Qh (C M) S (P p 0) f)) (fun v3=>bnd (gdO (Qc (B b) true) (ldO (C M) T v3)) fun v4=>bnd (gdO (Qc (B b) true) (Qi (C M) .rem t v4 (I 2))) fun v5=>bnd (gdO (Qc (B b) true) (Qi (C M) .eql t2 v5 (I 1))) fun v6=>bnd (Qm (B b) v6 (B false)) k) σ) Q:=by
  cases b with
  | true=>
    refine Qb (Qe hf) ?_
    refine Qb (Qe hl) ?_
    refine Qb (Qe (o_rem (by decide))) ?_
    refine Qb (Qe o_eql) ?_
    refine Qb (rfl) ?_
    exact hk
  | false=>
    refine Qb (Vr) ?_
    refine Qb (Vr) ?_
    refine Qb (Vr) ?_
    refine Qb (Vr) ?_
    refine Qb (rfl) ?_
    exact hk
def cA (c:Cfg):Bool:=(((inB c.bk 1 256 && inB c.en 1 8) && inB c.vo 1 64) && inB c.lr 1 7) && inB c.lc 1 256
def cB (c:Cfg):Bool:=((inB c.fb 1 256 && inB c.fh 1 7) && inB c.rr 1 7) && inB c.rc 1 256
def cD (c:Cfg):Bool:=(((inB c.lv 1 16 && inB c.sr 1 7) && odd1 c.sr) && inB c.sc 1 256) && inB c.tp 1 64
def cE (c:Cfg):Bool:=((inB c.xr 1 7 && inB c.xc 1 256) && inB c.ml 1 16) && inB c.mb 1 256
def confB (c:Cfg):Bool:=(((cA c && cB c) && cD c) && cE c) && Wc c
theorem inB_iff {x lo hi:Int}:inB x lo hi = true ↔ lo≤x∧x≤hi:=by
  unfold inB; simp only [Bool.and_eq_true,Bool.not_eq_true',decide_eq_false_iff_not]; omega
theorem odd_iff {x:Int} (h:1≤x):odd1 x = true ↔ Int.tmod x 2 ≠ 0:=by
  obtain ⟨n,rfl⟩:∃ n:Nat,x = (n:Int):=⟨x.toNat,by omega⟩
  have:Int.tmod (n:Int) 2 = ((n % 2:Nat):Int):=rfl
  unfold odd1
  rw [this,beq_iff_eq]
  omega
theorem conf_bad (c:Cfg):confB c = !Wd c:=by
  rw [Bool.eq_iff_iff]
  constructor
  · intro h
    unfold confB cA cB cD cE at h
    simp only [Bool.and_eq_true,inB_iff] at h
    obtain ⟨⟨⟨⟨h1,h2⟩,h3⟩,h4⟩,h5⟩:=h
    have ho:=(odd_iff (by omega)).mp h3.1.1.2
    have hs:(Int.tmod c.sr 2 == 0) = false:=beq_eq_false_iff_ne.mpr ho
    have:Wd c = false:=by
      unfold Wd Y6 W6 radBad Jq Vp Y5 Ve V7
      rw [hs,h5]
      simp only [Bool.or_eq_false_iff,decide_eq_false_iff_not,Bool.not_true,and_true,true_and]
      omega
    rw [this]; rfl
  · intro h
    have h:Wd c = false:=by simpa using h
    have k:=cfg_ok h
    have h5:Wc c = true:=by
      unfold Wd at h
      rw [Bool.or_eq_false_iff] at h
      simpa using h.2
    unfold confB cA cB cD cE
    simp only [Bool.and_eq_true,inB_iff]
    exact ⟨⟨⟨⟨⟨⟨⟨⟨k.bk,k.en⟩,k.vo⟩,k.lr⟩,k.lc⟩,⟨⟨k.fb,k.fh⟩,k.rr⟩,k.rc⟩,⟨⟨⟨k.lv,k.sr⟩,(odd_iff k.sr.1).mpr k.odd⟩,k.sc⟩,k.tp⟩,⟨⟨k.xr,k.xc⟩,k.ml⟩,k.mb⟩,h5⟩
theorem config_run (ht:Fr tab) {c:Cfg}:Yl (Ql (C M) tab (n + 2) 5 [.agg c.cells] σ) (fun v σ'=>v = B (confB c)∧Gr σ σ'):=by
  refine Q3 (ht _ rfl) Tryz.func5 (by kernel_rfl) ?_
  rw [F5_eq]
  unfold K5_0
  refine Yn fun σ1 b1 e1 a1 _=>?_
  unfold K5_1
  refine Qb (fa24_1) ?_
  refine Qb (Qg a1.2 ag3 rfl) ?_
  refine Xs rfl (in_run (n:=n) ht) ?_
  refine y_in ht fa24_2 (Qg a1.2 ag3 rfl) ?_
  refine y_in ht fa24_3 (Qg a1.2 ag3 rfl) ?_
  refine y_in ht fa24_4 (Qg a1.2 ag3 rfl) ?_
  refine y_in ht fa24_5 (Qg a1.2 ag3 rfl) ?_
  unfold K5_2
  refine Qb (fa24_6) ?_
  refine Qb (Qg a1.2 ag3 rfl) ?_
  refine Xs rfl (in_run (n:=n) ht) ?_
  refine y_in ht fa24_7 (Qg a1.2 ag3 rfl) ?_
  refine y_in ht fa24_8 (Qg a1.2 ag3 rfl) ?_
  refine y_in ht fa24_9 (Qg a1.2 ag3 rfl) ?_
  unfold K5_3
  refine Qb (fa24_10) ?_
  refine Qb (Qg a1.2 ag3 rfl) ?_
  refine Xs rfl (in_run (n:=n) ht) ?_
  refine y_in ht fa24_11 (Qg a1.2 ag3 rfl) ?_
  refine y_odd fa24_11 (Qg a1.2 ag3 rfl) ?_
  refine y_in ht fa24_12 (Qg a1.2 ag3 rfl) ?_
  refine y_in ht fa24_13 (Qg a1.2 ag3 rfl) ?_
  unfold K5_4
  refine Qb (fa24_14) ?_
  refine Qb (Qg a1.2 ag3 rfl) ?_
  refine Xs rfl (in_run (n:=n) ht) ?_
  refine y_in ht fa24_15 (Qg a1.2 ag3 rfl) ?_
  refine y_in ht fa24_16 (Qg a1.2 ag3 rfl) ?_
  refine y_in ht fa24_17 (Qg a1.2 ag3 rfl) ?_
  have hA:((((inB c.bk 1 256 && inB c.en 1 8) && inB c.vo 1 64) && inB c.lr 1 7) && inB c.lc 1 256) = cA c:=rfl
  have hB:(((inB c.fb 1 256 && inB c.fh 1 7) && inB c.rr 1 7) && inB c.rc 1 256) = cB c:=rfl
  have hD:((((inB c.lv 1 16 && inB c.sr 1 7) && odd1 c.sr) && inB c.sc 1 256) && inB c.tp 1 64) = cD c:=rfl
  have hE:(((inB c.xr 1 7 && inB c.xc 1 256) && inB c.ml 1 16) && inB c.mb 1 256) = cE c:=rfl
  rw [hA,hB,hD,hE]
  refine Qb (Va) ?_
  cases ha:cA c with
  | false=>
    repeat first | refine Qb Vr ?_ | refine Qb rfl ?_
    refine Xc (rfl) ?_
    exact Qs ⟨by unfold confB; rw [ha]; rfl,e1⟩
  | true=>
  refine Qb (Qe rfl) ?_
  refine Qb (Qe Va) ?_
  refine Qb (rfl) ?_
  cases hb:cB c with
  | false=>
    repeat first | refine Qb Vr ?_ | refine Qb rfl ?_
    refine Xc (rfl) ?_
    exact Qs ⟨by unfold confB; rw [ha,hb]; rfl,e1⟩
  | true=>
  refine Qb (Qe rfl) ?_
  refine Qb (Qe Va) ?_
  refine Qb (rfl) ?_
  cases hd:cD c with
  | false=>
    repeat first | refine Qb Vr ?_ | refine Qb rfl ?_
    refine Xc (rfl) ?_
    exact Qs ⟨by unfold confB; rw [ha,hb,hd]; rfl,e1⟩
  | true=>
  refine Qb (Qe rfl) ?_
  refine Qb (Qe Va) ?_
  refine Qb (rfl) ?_
  cases he:cE c with
  | false=>
    refine Xc (rfl) ?_
    exact Qs ⟨by unfold confB; rw [ha,hb,hd,he]; rfl,e1⟩
  | true=>
  refine Qx (rfl) ?_
  have h:InR c:=by
    have ha':=ha
    have hb':=hb
    have hd':=hd
    have he':=he
    unfold cA at ha'
    unfold cB at hb'
    unfold cD at hd'
    unfold cE at he'
    simp only [Bool.and_eq_true,inB_iff] at ha' hb' hd' he'
    constructor <;> omega
  have b0_1:-9223372036854775808≤c.rr * c.rc∧c.rr * c.rc < 9223372036854775808:=by
    have l0:=Int.mul_nonneg (show 0≤c.rr from h.rr.1) h.rc.1
    have u0:=Int.mul_le_mul (show c.rr≤7 from h.rr.2) h.rc.2 h.rc.1 (show (0:Int)≤7 by omega)
    exact ⟨by omega,by omega⟩
  have b1_1:-9223372036854775808≤c.bk * c.en∧c.bk * c.en < 9223372036854775808:=by
    have l0:=Int.mul_nonneg (show 0≤c.bk from h.bk.1) h.en.1
    have u0:=Int.mul_le_mul (show c.bk≤256 from h.bk.2) h.en.2 h.en.1 (show (0:Int)≤256 by omega)
    exact ⟨by omega,by omega⟩
  have b2_1:-9223372036854775808≤c.lr * c.lc∧c.lr * c.lc < 9223372036854775808:=by
    have l0:=Int.mul_nonneg (show 0≤c.lr from h.lr.1) h.lc.1
    have u0:=Int.mul_le_mul (show c.lr≤7 from h.lr.2) h.lc.2 h.lc.1 (show (0:Int)≤7 by omega)
    exact ⟨by omega,by omega⟩
  have b3_1:-9223372036854775808≤c.lv * c.sr∧c.lv * c.sr < 9223372036854775808:=by
    have l0:=Int.mul_nonneg (show 0≤c.lv from h.lv.1) h.sr.1
    have u0:=Int.mul_le_mul (show c.lv≤16 from h.lv.2) h.sr.2 h.sr.1 (show (0:Int)≤16 by omega)
    exact ⟨by omega,by omega⟩
  have b3_2:-9223372036854775808≤c.lv * c.sr * c.sc∧c.lv * c.sr * c.sc < 9223372036854775808:=by
    have l0:=Int.mul_nonneg (show 0≤c.lv from h.lv.1) h.sr.1
    have u0:=Int.mul_le_mul (show c.lv≤16 from h.lv.2) h.sr.2 h.sr.1 (show (0:Int)≤16 by omega)
    have l1:=Int.mul_nonneg l0 h.sc.1
    have u1:=Int.mul_le_mul (show _≤(112:Int) from u0) h.sc.2 h.sc.1 (show (0:Int)≤112 by omega)
    exact ⟨by omega,by omega⟩
  have b4_1:-9223372036854775808≤c.lv * c.tp∧c.lv * c.tp < 9223372036854775808:=by
    have l0:=Int.mul_nonneg (show 0≤c.lv from h.lv.1) h.tp.1
    have u0:=Int.mul_le_mul (show c.lv≤16 from h.lv.2) h.tp.2 h.tp.1 (show (0:Int)≤16 by omega)
    exact ⟨by omega,by omega⟩
  have b5_1:-9223372036854775808≤c.xr * c.xc∧c.xr * c.xc < 9223372036854775808:=by
    have l0:=Int.mul_nonneg (show 0≤c.xr from h.xr.1) h.xc.1
    have u0:=Int.mul_le_mul (show c.xr≤7 from h.xr.2) h.xc.2 h.xc.1 (show (0:Int)≤7 by omega)
    exact ⟨by omega,by omega⟩
  have b5_2:-9223372036854775808≤c.xr * c.xc * c.ml∧c.xr * c.xc * c.ml < 9223372036854775808:=by
    have l0:=Int.mul_nonneg (show 0≤c.xr from h.xr.1) h.xc.1
    have u0:=Int.mul_le_mul (show c.xr≤7 from h.xr.2) h.xc.2 h.xc.1 (show (0:Int)≤7 by omega)
    have l1:=Int.mul_nonneg l0 h.ml.1
    have u1:=Int.mul_le_mul (show _≤(1792:Int) from u0) h.ml.2 h.ml.1 (show (0:Int)≤1792 by omega)
    exact ⟨by omega,by omega⟩
  have b5_3:-9223372036854775808≤c.xr * c.xc * c.ml * c.mb∧c.xr * c.xc * c.ml * c.mb < 9223372036854775808:=by
    have l0:=Int.mul_nonneg (show 0≤c.xr from h.xr.1) h.xc.1
    have u0:=Int.mul_le_mul (show c.xr≤7 from h.xr.2) h.xc.2 h.xc.1 (show (0:Int)≤7 by omega)
    have l1:=Int.mul_nonneg l0 h.ml.1
    have u1:=Int.mul_le_mul (show _≤(1792:Int) from u0) h.ml.2 h.ml.1 (show (0:Int)≤1792 by omega)
    have l2:=Int.mul_nonneg l1 h.mb.1
    have u2:=Int.mul_le_mul (show _≤(28672:Int) from u1) h.mb.2 h.mb.1 (show (0:Int)≤28672 by omega)
    exact ⟨by omega,by omega⟩
  refine Qb (fa24_8) ?_
  refine Qb (Qg a1.2 ag3 rfl) ?_
  refine Qb (fa24_9) ?_
  refine Qb (Qg a1.2 ag3 rfl) ?_
  refine Qb (o_mul) ?_
  rw [Xw (b0_1.1) (b0_1.2)]
  refine Qb (o_leq) ?_
  cases h0:decide (32 < c.rr * c.rc) with
  | true=>
    repeat first | refine Xo rfl ?_ | refine Qb rfl ?_
    exact Qs ⟨by unfold confB Wc; rw [ha,hb,hd,he]; simp only [h0,Bool.not_true,Bool.and_false,Bool.false_and,Bool.not_false,Bool.true_and] <;> rfl,e1⟩
  | false=>
    refine Qz rfl (fa24_1) ?_
    refine Qz rfl (Qg a1.2 ag3 rfl) ?_
    refine Qz rfl (fa24_2) ?_
    refine Qz rfl (Qg a1.2 ag3 rfl) ?_
    refine Qz rfl (o_mul) ?_
    rw [Xw (b1_1.1) (b1_1.2)]
    refine Qz rfl (o_leq) ?_
    refine Qb (rfl) ?_
    cases h1:decide (256 < c.bk * c.en) with
    | true=>
      repeat first | refine Xo rfl ?_ | refine Qb rfl ?_
      exact Qs ⟨by unfold confB Wc; rw [ha,hb,hd,he]; simp only [h0,h1,Bool.not_true,Bool.and_false,Bool.false_and,Bool.not_false,Bool.true_and] <;> rfl,e1⟩
    | false=>
      refine Qz rfl (fa24_4) ?_
      refine Qz rfl (Qg a1.2 ag3 rfl) ?_
      refine Qz rfl (fa24_5) ?_
      refine Qz rfl (Qg a1.2 ag3 rfl) ?_
      refine Qz rfl (o_mul) ?_
      rw [Xw (b2_1.1) (b2_1.2)]
      refine Qz rfl (o_leq) ?_
      refine Qb (rfl) ?_
      cases h2:decide (512 < c.lr * c.lc) with
      | true=>
        repeat first | refine Xo rfl ?_ | refine Qb rfl ?_
        exact Qs ⟨by unfold confB Wc; rw [ha,hb,hd,he]; simp only [h0,h1,h2,Bool.not_true,Bool.and_false,Bool.false_and,Bool.not_false,Bool.true_and] <;> rfl,e1⟩
      | false=>
        refine Qz rfl (fa24_10) ?_
        refine Qz rfl (Qg a1.2 ag3 rfl) ?_
        refine Qz rfl (fa24_11) ?_
        refine Qz rfl (Qg a1.2 ag3 rfl) ?_
        refine Qz rfl (o_mul) ?_
        rw [Xw (b3_1.1) (b3_1.2)]
        refine Qz rfl (fa24_12) ?_
        refine Qz rfl (Qg a1.2 ag3 rfl) ?_
        refine Qz rfl (o_mul) ?_
        rw [Xw (b3_2.1) (b3_2.2)]
        refine Qz rfl (o_leq) ?_
        refine Qb (rfl) ?_
        cases h3:decide (2048 < c.lv * c.sr * c.sc) with
        | true=>
          repeat first | refine Xo rfl ?_ | refine Qb rfl ?_
          exact Qs ⟨by unfold confB Wc; rw [ha,hb,hd,he]; simp only [h0,h1,h2,h3,Bool.not_true,Bool.and_false,Bool.false_and,Bool.not_false,Bool.true_and] <;> rfl,e1⟩
        | false=>
          refine Qz rfl (fa24_10) ?_
          refine Qz rfl (Qg a1.2 ag3 rfl) ?_
          refine Qz rfl (fa24_13) ?_
          refine Qz rfl (Qg a1.2 ag3 rfl) ?_
          refine Qz rfl (o_mul) ?_
          rw [Xw (b4_1.1) (b4_1.2)]
          refine Qz rfl (o_leq) ?_
          refine Qb (rfl) ?_
          cases h4:decide (512 < c.lv * c.tp) with
          | true=>
            repeat first | refine Xo rfl ?_ | refine Qb rfl ?_
            exact Qs ⟨by unfold confB Wc; rw [ha,hb,hd,he]; simp only [h0,h1,h2,h3,h4,Bool.not_true,Bool.and_false,Bool.false_and,Bool.not_false,Bool.true_and] <;> rfl,e1⟩
          | false=>
            refine Qz rfl (fa24_14) ?_
            refine Qz rfl (Qg a1.2 ag3 rfl) ?_
            refine Qz rfl (fa24_15) ?_
            refine Qz rfl (Qg a1.2 ag3 rfl) ?_
            refine Qz rfl (o_mul) ?_
            rw [Xw (b5_1.1) (b5_1.2)]
            refine Qz rfl (fa24_16) ?_
            refine Qz rfl (Qg a1.2 ag3 rfl) ?_
            refine Qz rfl (o_mul) ?_
            rw [Xw (b5_2.1) (b5_2.2)]
            refine Qz rfl (fa24_17) ?_
            refine Qz rfl (Qg a1.2 ag3 rfl) ?_
            refine Qz rfl (o_mul) ?_
            rw [Xw (b5_3.1) (b5_3.2)]
            refine Qz rfl (o_leq) ?_
            refine Qb (rfl) ?_
            exact Qs ⟨by unfold confB Wc; rw [ha,hb,hd,he]; simp only [h0,h1,h2,h3,h4,Bool.not_false,Bool.true_and] <;> rfl,e1⟩
end
end Core
end Go.Proofs.YtjfgdcegpgoobaaGreatDoor
namespace Go.Proofs.YtjfgdcegpgoobaaGreatDoor
open Go.Run Go
namespace Core
open Ty
set_option maxRecDepth 1000000
theorem y_cpyg {t n:Nat} {σ:St} {l z:List CV} {Q:AV→St→Prop} {k:AV→AV→Kt} (hz:Xe (C M) t σ = .new (.cells z t true) (fun a=>P a 0)) (hs:size (C M) t = some n) (hn:l.length = n) (hl:z.length = n)
    (h:∀ σ' b,Gr σ σ'→σ'.get b = some (.cells l t true)→b = σ.next→σ'.next = σ.next + 1→Yl (k (P b 0) (.tup []) σ') Q):Yl (bnd (Xe (C M) t) (fun v=>bnd (stO (C M) t v (.agg l)) (k v)) σ) Q:=by
  refine Ye hz (Yj (X1 (l':=l) (by rw [St.get_push,if_pos rfl]) rfl hs (by rw [Yx]; exact hn) ?_) (h _ _ ((Gr.push _ _).put _ (Nat.le_refl _)) (by rw [St.get_put,if_pos rfl]) rfl rfl))
  have:=Ji l z [] (by omega)
  simpa using this
theorem y_ret1 {t:TypeId} {a v:AV} {σ:St} {Q:AV→St→Prop} (h:loadA (C M) t a σ = some v) (hq:Q v σ):Yl (Qo (C M) [(some t,a)] σ) Q:=by
  refine y_ret (vs:=[v]) ?_ hq
  show (match loadA (C M) t a σ,(some []:Option (List AV)) with | some v,some vs=>some (v :: vs) | _,_=>none) = _
  rw [h]
section
variable {base lo sz:Nat} {σ σ':St} {e:TypeId} {cv:CV} {es:List (List DV)}
theorem y_dapp {s0:St} {t by' p:Nat} {x:List DV} {new:List CV} {xv:AV} {k:AV→St→Kt} {Q:AV→St→Prop} (hu:und (C M) t = some (.slice e)) (hi:((C M).P.info? e).map (fun t=>(t.size,t.bytes)) = some (sz + 1,by')) (hno:noInt (C M) [t] = true) (hrow:(Na (C M) e (sz + 1) 1).isSome = true) (hby:by'≤10000)
    (hb:Vi (C M) t 1 [(0,xv)] σ = .new (.cells new e true) (fun i=>.one (.slice (some (i,0)) 1 (.to (sz + 1))))) (h:Bld base lo s0 sz e cv es) (g:Gr s0 σ) (hp0:s0.next≤p) (hp:p < σ.next) (hlo:lo≤s0.next) (hx:RepL (fun i=>((i < base ∨ lo≤i)∧¬ X5 cv i)∧i ≠ p) σ new x) (hxl:x.length = sz + 1) (hes:es.length * (sz + 1)≤1000000)
    (hk:∀ σ' cv',Bld base lo σ' sz e cv' (es ++ [x])→σ.next≤σ'.next→(∀ i,i < σ.next→i ≠ p→¬ X5 cv i→σ'.get i = σ.get i)→Yl (k (.one cv') σ' σ') Q) :
    Yl (Vw (Vi (C M) t 1 [(0,xv)]) p (fun v=>Xn (Qv (C M) .append [t,t] [.one cv,v]) k) σ) Q:=by
  have hat:=fun i (hi:X5 cv i)=>h.at hi
  obtain ⟨l,ho,hl,hr,hxs⟩:=h
  have g1':=g.1
  refine y_dnw hb fun s1 n1 g1 o1=>?_
  have ho':Own lo s1 sz e cv l:=ho.to (by omega) fun i hi=>by
    have:=hat i hi
    rw [o1 i (by omega),g.2 i this.2]
  obtain ⟨cv',σ2,q1,q2,q3,q4,q5⟩:=Wr (t:=t) (cx:=C M) (vb:=p) hu hi hno hrow ho' (by omega) g1 rfl (by rw [hx.len,hxl]) (by omega) hby
  refine X7 q1 (hk σ2 cv' ⟨l ++ new,q2,?_,?_,?_⟩ (by omega) fun i hi hne hna=>by rw [q4 i (by omega) hna,o1 i hne])
  · rw [List.length_append,hl,hx.len,hxl,List.length_append,Nat.add_mul]; simp
  · rw [List.flatten_append,List.flatten_cons,List.flatten_nil,List.append_nil]
    refine RepL.append ?_ ?_
    · exact hr.to fun i hi hlt=>⟨by rw [q4 i (by omega) hi.2,o1 i (by omega),g.2 i hlt],by omega,hi.1,fun hat'=>by have:=q5 i hat'; omega⟩
    · exact hx.to fun i hi hlt=>⟨by rw [q4 i (by omega) hi.1.2,o1 i hi.2],by omega,hi.1.1,fun hat'=>by have:=q5 i hat'; omega⟩
  · intro y hy
    rcases List.mem_append.mp hy with hy | hy
    · exact hxs y hy
    · rw [List.mem_singleton.mp hy]; exact hxl
end
section
variable {n:Nat} {σ:St} {tab:Tab}
theorem ne55 {σ:St}:Xe (C M) 55 σ = .new (.cells [.int .u64 0,.int .i64 0,.slice none 0 (.ex 0)] 55 true) (fun a=>P a 0):=by kernel_rfl
theorem dbl55 {u h:Int} {cv:CV}:Xp (C M) 55 [(0,Iu u),(1,I h),(2,.one cv)] σ = .val (.agg [.int .u64 u,.int .i64 h,cv]):=by kernel_rfl
theorem d10_run (ht:Fr tab) {s k:Nat} {h:Int} (hk:1≤k∧k≤1000):Yl (Ql (C M) tab (n + 1) 33 [Iu (s:Nat),I (k:Nat),I h] σ) (fun v σ'=>Gr σ σ'∧∃ cv,v = .agg [.int .u64 s,.int .i64 h,cv]∧Rep (fun i=>σ.next≤i) σ' cv (Zk (List.replicate k false))):=by
  refine Q3 (ht _ rfl) Tryz.func33 (by kernel_rfl) ?_
  rw [F33_eq]
  unfold K33_0
  refine Ye (ne55) ?_
  refine Ye (mks4 (by omega) (by omega)) ?_
  refine Qb (dbl55) ?_
  refine Yj (X1 (e:=55) (x:=true) (l:=[.int .u64 0,.int .i64 0,.slice none 0 (.ex 0)]) (by rw [St.get_push,if_neg (by rw [St.next_push]; omega),St.get_push,if_pos rfl]) rfl sz55 rfl rfl) ?_
  refine y_ret1 (Y7 (by rw [St.get_put,if_pos rfl]) rfl ag55 sz55 rfl) ⟨((Gr.push _ _).trans (Gr.push _ _)).put _ (Nat.le_refl _),_,rfl,?_⟩
  refine rep_row4 (by rw [St.next_push]; omega) (by simp only [St.next_put,St.next_push]; omega) ?_
  rw [St.get_put,if_neg (by rw [St.next_push]; omega),St.get_push,if_pos rfl]
theorem ne64 {σ:St}:Xe (C M) 64 σ = .new (.cells [.int .u64 0,.slice none 0 (.ex 0)] 64 true) (fun a=>P a 0):=by kernel_rfl
theorem ne118 {σ:St}:Xe (C M) 118 σ = .new (.cells [.int .u64 0,.slice none 0 (.ex 0)] 118 true) (fun a=>P a 0):=by kernel_rfl
theorem dbl64 {u:Int}:Xp (C M) 64 [(0,Iu u)] σ = .val (.agg [.int .u64 u,.slice none 0 (.ex 0)]):=by kernel_rfl
theorem dbl118 {u:Int}:Xp (C M) 118 [(0,Iu u)] σ = .val (.agg [.int .u64 u,.slice none 0 (.ex 0)]):=by kernel_rfl
theorem dbl120 {u:Int} {cv:CV}:Xp (C M) 120 [(0,.agg [.int .u64 u,cv]),(2,I (-1))] σ = .val (.agg [.int .u64 u,cv,.str ⟨⟨[]⟩⟩,.int .i64 (-1)]):=by kernel_rfl
theorem spreads_run (ht:Fr tab) {seed:Nat} {c:Cfg} (ck:COk c):Yl (Ql (C M) tab (n + 6) 34 [Iu (seed:Nat),.agg c.cells] σ) (fun v σ'=>Gr σ σ'∧∃ cv,v = .agg [.int .u64 seed,cv]∧Rep (fun i=>σ.next≤i) σ' cv (.sl 1 (List.replicate c.xr.toNat [dBuckets seed c.ml.toNat c.mb.toNat c.xc.toNat]))):=by
  have xr:=ck.xr
  have xc:=ck.xc
  have ml:=ck.ml
  have mb:=ck.mb
  obtain ⟨r,hr⟩:∃ r:Nat,c.xr = (r:Int):=⟨c.xr.toNat,by omega⟩
  obtain ⟨k,hk⟩:∃ k:Nat,c.xc = (k:Int):=⟨c.xc.toNat,by omega⟩
  obtain ⟨m,hm⟩:∃ m:Nat,c.ml = (m:Int):=⟨c.ml.toNat,by omega⟩
  obtain ⟨w,hw⟩:∃ w:Nat,c.mb = (w:Int):=⟨c.mb.toNat,by omega⟩
  rw [hr,hk,hm,hw]
  simp only [Int.toNat_natCast]
  refine Q3 (ht _ rfl) Tryz.func34 (by kernel_rfl) ?_
  rw [F34_eq]
  unfold K34_0
  refine Yn fun σ1 b3 e1 a3 q3=>?_
  have c16:c.cells[16]? = some (.int .i64 m):=by rw [← hm]; rfl
  have c17:c.cells[17]? = some (.int .i64 w):=by rw [← hw]; rfl
  have c15:c.cells[15]? = some (.int .i64 k):=by rw [← hk]; rfl
  have c14:c.cells[14]? = some (.int .i64 r):=by rw [← hr]; rfl
  have b34:b3 < σ1.next:=a3.1
  refine Ye (ne64) ?_
  generalize hs2:σ1.push (.cells [.int .u64 0,.slice none 0 (.ex 0)] 64 true) = σ2
  have e2:Gr σ1 σ2:=by rw [← hs2]; exact Gr.push _ _
  have n2:σ2.next = σ1.next + 1:=by rw [← hs2]; rfl
  have g4:σ2.get σ1.next = some (.cells [.int .u64 0,.slice none 0 (.ex 0)] 64 true):=by rw [← hs2,St.get_push,if_pos rfl]
  have q1:=e1.1
  generalize hb4:σ1.next = b4 at *
  unfold K34_1
  refine Qb (dbl64) ?_
  refine y_cpyg ne64 sz64 rfl rfl fun σ3 b5 e3 g5 hb5 n3=>?_
  replace g4:=(e3.2 b4 (by omega)).trans g4
  replace a3:=(a3.ext e2).ext e3
  have e13:=(e1.trans e2).trans e3
  unfold K34_2 K34_4
  refine Yb (L:=fun f' j s=>L34_5 M (Ql (C M) tab (n + 5)) f' (Iu (seed:Nat)) (P b3 0) (P b4 0) (P b5 0) (I (j:Nat)) s) (n:=r)
    (fun j s=>σ3.next≤s.next∧(∀ i,i < σ3.next→i ≠ b5→s.get i = σ3.get i)∧∃ cv,s.get b5 = some (.cells [.int .u64 seed,cv] 64 true)∧Bld 0 σ3.next s 0 112 cv (List.replicate j [dBuckets seed m w k]))
    (fun f' j s hj hi hkk=>?_) (fun f' s hi=>?_) 0 M σ3 (by omega) (by unfold M; omega) ⟨Nat.le_refl _,fun _ _ _=>rfl,_,g5,Bld.nil⟩
  · obtain ⟨l1,f1,cv,g5,hb⟩:=hi
    rw [L34_5_succ]
    have a3':At s b3 0 c.cells:=⟨by omega,a3.2.to (f1 b3 (by omega) (by omega))⟩
    unfold L34_5_b
    refine Qb (fa24_14) ?_
    refine Qb (Qg (i:=14) a3'.2 ag3 c14) ?_
    refine Qb (Xi (by omega)) ?_
    refine Xc (rfl) ?_
    unfold K34_6 K34_8 K34_10
    refine y_fora (L:=fun f2 i cv s=>L34_11 M (Ql (C M) tab (n + 5)) (L34_5 M (Ql (C M) tab (n + 5)) f') f2 (Iu (seed:Nat)) (P b3 0) (P b4 0) (P b5 0) (I (j:Nat)) (.one cv) (I (i:Nat)) s) (n:=k)
      (fun i cv2 s2=>Gr s s2∧Bld 0 s.next s2 3 120 cv2 (List.replicate i (spb0 seed m w))) (fun f2 i cv2 s2 hi2 hinv hk2=>?_) (fun f2 cv2 s2 hinv=>?_) 0 M (.slice none 0 (.ex 0)) s (by omega) (by unfold M; omega) ⟨Gr.refl _,Bld.nil⟩
    · obtain ⟨e4,hb2⟩:=hinv
      rw [L34_11_succ]
      have a4:=a3'.ext e4
      have hat2:=fun i (hi:X5 cv2 i)=>hb2.at hi
      have l4:=e4.1
      unfold L34_11_b
      refine Qb (fa24_15) ?_
      refine Qb (Qg (i:=15) a4.2 ag3 c15) ?_
      refine Qb (Xi (by omega)) ?_
      refine Xc (rfl) ?_
      unfold K34_12
      refine Xs rfl (drow_run (n:=n) ht (by omega) (by omega)) ?_
      refine Qb (dbl118) ?_
      refine y_cpyg ne118 sz118 rfl rfl fun s3 b9 e5 g9 hb9 n9=>?_
      have a5:=a4.ext e5
      unfold K34_14 K34_16
      refine Yb (L:=fun f3 q s=>L34_17 M (Ql (C M) tab (n + 5)) (L34_5 M (Ql (C M) tab (n + 5)) f') (L34_11 M (Ql (C M) tab (n + 5)) (L34_5 M (Ql (C M) tab (n + 5)) f') f2) f3 (Iu (seed:Nat)) (P b3 0) (P b4 0) (P b5 0) (I (j:Nat)) (.one cv2) (I (i:Nat)) (P b9 0) (I (q:Nat)) s) (n:=m)
        (fun q s4=>s3.next≤s4.next∧(∀ i,i < s3.next→i ≠ b9→s4.get i = s3.get i)∧∃ cv3,s4.get b9 = some (.cells [.int .u64 (Xa seed (Int.toNat 0):Nat),cv3] 118 true)∧Bld 0 s3.next s4 0 32 cv3 (List.replicate q [Zk (List.replicate w false)]))
        (fun f3 q s4 hq hinv hk3=>?_) (fun f3 s4 hinv=>?_) 0 M s3 (by omega) (by unfold M; omega) ⟨Nat.le_refl _,fun _ _ _=>rfl,_,g9,Bld.nil⟩
      · obtain ⟨l5,f5,cv3,g9,hb3⟩:=hinv
        rw [L34_17_succ]
        have hat3:=fun i (hi:X5 cv3 i)=>hb3.at hi
        have a6:At s4 b3 0 c.cells:=⟨by have:=a5.1; omega,a5.2.to (f5 b3 (by have:=a3'.1; omega) (by have:=a3'.1; omega))⟩
        have a9:At s4 b9 0 _:=⟨by omega,Lies.of g9⟩
        unfold L34_17_b
        refine Qb (fa24_16) ?_
        refine Qb (Qg (i:=16) a6.2 ag3 c16) ?_
        refine Qb (Xi (by omega)) ?_
        refine Xc (rfl) ?_
        unfold K34_18
        refine y_atn fun s5 a e6 n5 ha=>X0 ?_
        have isl:okV (.one cv3) = true:=by
          obtain ⟨p,cap,rfl⟩:=(hb3.rep (ok:=fun _=>True) fun _ _=>trivial).len
          rfl
        refine Qf (Jb) ?_
        refine Qj (Qg (a9.ext e6).2 Wt rfl) isl ?_
        refine Qf (fa24_17) ?_
        refine Qj (Qg (i:=17) (a6.ext e6).2 ag3 c17) rfl ?_
        refine y_dnw (mks4 (by omega) (by omega)) fun s6 n6 g6 o6=>?_
        simp only [na] at g6 o6 ⊢
        refine y_dapp (s0:=s4) (base:=0) (lo:=s3.next) W9 in32 (by kernel_rfl) (by kernel_rfl) (by decide) bs1_113 hb3 ⟨by omega,fun i hi=>by rw [o6 i (by omega),e6.2 i hi]⟩ (by omega) (by omega) (by omega) (x:=[Zk (List.replicate w false)]) (.cons (rep_row4 ⟨⟨.inr (by omega),fun h=>by have:=hat3 _ h; omega⟩,by omega⟩ (by omega) g6) .nil) rfl (by simp; omega) fun s7 cv4 hb4 n7 o7=>?_
        have g97:s7.get b9 = some (.cells [.int .u64 (Xa seed (Int.toNat 0):Nat),cv3] 118 true):=by rw [o7 b9 (by omega) (by omega) (fun h=>by have:=hat3 _ h; omega),o6 b9 (by omega),e6.2 b9 (by omega)]; exact g9
        refine Qf (Jb) ?_
        refine X7 (X1 g97 rfl sz113 rfl rfl) ?_
        unfold K34_19
        refine Qb (Xy (by omega)) ?_
        refine hk3 _ ⟨by rw [St.next_put]; omega,fun i hi hne=>by rw [St.get_put,if_neg hne,o7 i (by omega) (by omega) (fun h=>by have:=hat3 _ h; omega),o6 i (by omega),e6.2 i (by omega)]; exact f5 i hi hne,cv4,by rw [St.get_put,if_pos rfl],?_⟩
        rw [List.replicate_succ']
        exact hb4.to (by rw [St.next_put]; exact Nat.le_refl _) fun i hi hlt=>by rw [St.get_put,if_neg (by omega)]
      · obtain ⟨l5,f5,cv3,g9,hb3⟩:=hinv
        rw [L34_17_succ]
        have a6:At s4 b3 0 c.cells:=⟨by have:=a5.1; omega,a5.2.to (f5 b3 (by have:=a3'.1; omega) (by have:=a3'.1; omega))⟩
        have a9:At s4 b9 0 _:=⟨by omega,Lies.of g9⟩
        unfold L34_17_b
        refine Qb (fa24_16) ?_
        refine Qb (Qg (i:=16) a6.2 ag3 c16) ?_
        refine Qb (Q4 (by omega)) ?_
        refine Qx (rfl) ?_
        unfold Wm
        refine Qb (Q7 a9.2 ag118 sz118 rfl) ?_
        refine Qb (dbl120) ?_
        have hb2':Bld 0 s.next s4 3 120 cv2 (List.replicate i (spb0 seed m w)):=hb2.to (by omega) fun i hi hlt=>by rw [f5 i (by omega) (by omega),e5.2 i hlt]
        have r3:=hb3.rep (ok:=fun i=>(i < 0 ∨ s.next≤i)∧¬ X5 cv2 i) fun i hi=>⟨.inr (by omega),fun h=>by have:=hat2 _ h; omega⟩
        refine y_app un112 in120 (by kernel_rfl) (by kernel_rfl) (by decide) bs4_112 hb2' (by omega) (x:=spb0 seed m w) (.cons (.flat rfl) (.cons ?_ (.cons (.flat rfl) (.cons (.flat rfl) .nil)))) rfl (by simp; omega) fun s5 cv5 hb5 n5 o5=>?_
        · unfold Jp
          rw [List.map_replicate]
          exact r3
        · unfold Zh
          refine Qb (Xy (by omega)) ?_
          refine hk2 cv5 s5 ⟨⟨by omega,fun i hi=>by rw [o5 i (by omega) (fun h=>by have:=hat2 _ h; omega),f5 i (by omega) (by omega),e5.2 i (by omega),e4.2 i hi]⟩,?_⟩
          rw [List.replicate_succ']
          exact hb5
    · obtain ⟨e4,hb2⟩:=hinv
      rw [L34_11_succ]
      have a4:=a3'.ext e4
      have hat1:=fun i (hi:X5 cv i)=>hb.at hi
      have l4:=e4.1
      unfold L34_11_b
      refine Qb (fa24_15) ?_
      refine Qb (Qg (i:=15) a4.2 ag3 c15) ?_
      refine Qb (Q4 (by omega)) ?_
      refine Qx (rfl) ?_
      have g5':=(e4.2 b5 (by omega)).trans g5
      have a5:At s2 b5 0 _:=⟨by omega,Lies.of g5'⟩
      unfold Y0
      refine Qb (Ni) ?_
      refine Qb (Qg a5.2 ag62 rfl) ?_
      have r2:=hb2.rep (ok:=fun i=>(i < 0 ∨ σ3.next≤i)∧¬ X5 cv i) fun i hi=>⟨.inr (by omega),fun h=>by have:=hat1 _ h; omega⟩
      refine y_app un62 in112 (by kernel_rfl) (by kernel_rfl) (by decide) bs1_62 (hb.ext e4) (by omega) (x:=[dBuckets seed m w k]) (.cons r2 .nil) rfl (by simp; omega) fun s5 cv5 hb5 n5 o5=>?_
      have g55:=(o5 b5 (by omega) (fun h=>by have:=hat1 _ h; omega)).trans g5'
      refine Qb (Ni) ?_
      refine Yj (X1 g55 rfl sz62 rfl rfl) ?_
      unfold Ya
      refine Qb (Xy (by omega)) ?_
      refine hkk _ ⟨by rw [St.next_put]; omega,fun i hi hne=>by rw [St.get_put,if_neg hne,o5 i (by omega) (fun h=>by have:=hat1 _ h; omega),e4.2 i (by omega)]; exact f1 i hi hne,cv5,by rw [St.get_put,if_pos rfl],?_⟩
      rw [List.replicate_succ']
      exact hb5.to (by rw [St.next_put]; exact Nat.le_refl _) fun i hi hlt=>by rw [St.get_put,if_neg (by omega)]
  · obtain ⟨l1,f1,cv,g5,hb⟩:=hi
    rw [L34_5_succ]
    have a3':At s b3 0 c.cells:=⟨by omega,a3.2.to (f1 b3 (by omega) (by omega))⟩
    have a5:At s b5 0 _:=⟨by omega,Lies.of g5⟩
    unfold L34_5_b
    refine Qb (fa24_14) ?_
    refine Qb (Qg (i:=14) a3'.2 ag3 c14) ?_
    refine Qb (Q4 (by omega)) ?_
    refine Qx (rfl) ?_
    have g4':=(f1 b4 (by omega) (by omega)).trans g4
    refine Qb (Q7 a5.2 ag64 sz64 rfl) ?_
    refine Yj (X1 g4' rfl sz64 rfl rfl) ?_
    refine y_ret1 (Y7 (by rw [St.get_put,if_pos rfl]) rfl ag64 sz64 rfl) ⟨⟨by rw [St.next_put]; omega,fun i hi=>by rw [St.get_put,if_neg (by omega),f1 i (by omega) (by omega),e13.2 i hi]⟩,cv,rfl,?_⟩
    have:=hb.rep (ok:=fun i=>σ3.next≤i) (fun i hi=>by omega)
    exact this.to fun i hi hlt=>⟨by rw [St.get_put,if_neg (by omega)],by rw [St.next_put]; exact hlt,by omega⟩
end
end Core
end Go.Proofs.YtjfgdcegpgoobaaGreatDoor
namespace Go.Proofs.YtjfgdcegpgoobaaGreatDoor
open Go.Run Go
namespace Core
open Ty
set_option maxRecDepth 1000000
def GrX (p:Nat) (s s':St):Prop:=s.next≤s'.next∧∀ i,i < s.next→i ≠ p→s'.get i = s.get i
section
variable {p q k:Nat} {a b c:St} {cs:List CV}
theorem Gr.x (h:Gr a b):GrX p a b:=⟨h.1,fun i hi _=>h.2 i hi⟩
theorem GrX.refl (a:St):GrX p a a:=⟨Nat.le_refl _,fun _ _ _=>rfl⟩
theorem GrX.trans (h:GrX p a b) (h':GrX p b c):GrX p a c:=⟨Nat.le_trans h.1 h'.1,fun i hi hn=>(h'.2 i (Nat.lt_of_lt_of_le hi h.1) hn).trans (h.2 i hi hn)⟩
theorem GrX.put (h:GrX p a b) (blk:Blk):GrX p a (b.put p blk):=⟨by rw [St.next_put]; exact h.1,fun i hi hn=>by rw [St.get_put,if_neg hn]; exact h.2 i hi hn⟩
theorem At.extx (h:At a q k cs) (e:GrX p a b) (hn:q ≠ p):At b q k cs:=⟨Nat.lt_of_lt_of_le h.1 e.1,h.2.to (e.2 q h.1 hn)⟩
theorem Rep.extx {ok:Nat→Prop} {cv:CV} {d:DV} (h:Rep ok a cv d) (e:GrX p a b) (hn:∀ i,ok i→i ≠ p):Rep ok b cv d:=h.to fun i ho hi=>⟨e.2 i hi (hn i ho),Nat.lt_of_lt_of_le hi e.1,ho⟩
theorem RepL.extx {ok:Nat→Prop} {l:List CV} {d:List DV} (h:RepL ok a l d) (e:GrX p a b) (hn:∀ i,ok i→i ≠ p):RepL ok b l d:=h.to fun i ho hi=>⟨e.2 i hi (hn i ho),Nat.lt_of_lt_of_le hi e.1,ho⟩
end
section
variable {n:Nat} {σ:St} {tab:Tab} {c:Cfg}
theorem ne66:Xe (C M) 66 σ = .new (.cells W0 66 true) (fun a=>P a 0):=by kernel_rfl
theorem dbl66 {cv:CV}:Xp (C M) 66 [(0,.agg c.cells),(3,.one cv)] σ = .val (.agg (c.cells ++ [.int .i64 0,.int .i64 0,cv] ++ tailZ)):=by kernel_rfl
theorem dbl54 {u a b:Int} {cv:CV}:Xp (C M) 54 [(0,Iu u),(1,I a),(2,I b),(3,.one cv)] σ = .val (.agg [.int .u64 u,.int .i64 a,.int .i64 b,cv,.int .u64 0,.int .i64 0,.slice none 0 (.ex 0)]):=by kernel_rfl
theorem dbl52 {u a:Int} {cv:CV}:Xp (C M) 52 [(0,Iu u),(1,I a),(2,.one cv)] σ = .val (.agg [.int .u64 u,.int .i64 a,cv]):=by kernel_rfl
theorem dbl58 {u w a:Int} {cv:CV}:Xp (C M) 58 [(0,Iu u),(1,.agg [.int .u64 w,.int .i64 a,cv])] σ = .val (.agg [.int .u64 u,.int .u64 w,.int .i64 a,cv,.slice none 0 (.ex 0)]):=by kernel_rfl
theorem dbl98 {s:List UInt8}:Xp (C M) 98 [(0,S s)] σ = .val (.agg [.str ⟨⟨s⟩⟩,.int .i64 0,.int .i64 0,.int .i64 0]):=by kernel_rfl
theorem dbl61 {u a:Int}:Xp (C M) 61 [(0,Iu u),(1,I a)] σ = .val (.agg [.int .u64 u,.int .i64 a,.slice none 0 (.ex 0)]):=by kernel_rfl
theorem dbl104 {u:Int} {cv:CV}:Xp (C M) 104 [(0,Iu u),(1,.one cv)] σ = .val (.agg [.int .u64 u,cv]):=by kernel_rfl
theorem dbl107 {u:Int} {cv:CV}:Xp (C M) 107 [(0,.agg [.int .u64 u,cv])] σ = .val (.agg [.int .u64 u,cv,.slice none 0 (.ex 0)]):=by kernel_rfl
theorem ne104:Xe (C M) 104 σ = .new (.cells [.int .u64 0,.slice none 0 (.ex 0)] 104 true) (fun a=>P a 0):=by kernel_rfl
theorem mk37:mksO (C M) 130 (I 37) (I 37) σ = .new (.cells (Y2 zeros37) 5 true) (fun i=>.one (.slice (some (i,0)) 37 (.to 1))):=by kernel_rfl
theorem zero90:zeroCells (C M) 90 = some [.slice none 0 (.ex 0),.int .i64 0]:=by kernel_rfl
abbrev LB (c:Cfg) (rj:CV) (e r u s:List CV):List CV:=c.cells ++ [.int .i64 0,.int .i64 0,rj] ++ e ++ r ++ u ++ s
theorem doc_new (ht:Fr tab) (ck:COk c) (hs:c.seed < 18446744073709551616):Yl (Ql (C M) tab (n + 7) 10 [.agg c.cells] σ) (fun v σ'=>Gr σ σ'∧∃ cs,v = .agg cs∧RepL (fun i=>σ.next≤i) σ' cs (newB c).d):=by
  obtain ⟨nbk,hbk⟩:∃ r:Nat,c.bk = (r:Int):=⟨c.bk.toNat,by have:=ck.bk; omega⟩
  obtain ⟨nlr,hlr⟩:∃ r:Nat,c.lr = (r:Int):=⟨c.lr.toNat,by have:=ck.lr; omega⟩
  obtain ⟨nlc,hlc⟩:∃ r:Nat,c.lc = (r:Int):=⟨c.lc.toNat,by have:=ck.lc; omega⟩
  obtain ⟨nfb,hfb⟩:∃ r:Nat,c.fb = (r:Int):=⟨c.fb.toNat,by have:=ck.fb; omega⟩
  obtain ⟨nrr,hrr⟩:∃ r:Nat,c.rr = (r:Int):=⟨c.rr.toNat,by have:=ck.rr; omega⟩
  obtain ⟨nrc,hrc⟩:∃ r:Nat,c.rc = (r:Int):=⟨c.rc.toNat,by have:=ck.rc; omega⟩
  obtain ⟨nlv,hlv⟩:∃ r:Nat,c.lv = (r:Int):=⟨c.lv.toNat,by have:=ck.lv; omega⟩
  obtain ⟨nsr,hsr⟩:∃ r:Nat,c.sr = (r:Int):=⟨c.sr.toNat,by have:=ck.sr; omega⟩
  obtain ⟨nsc,hsc⟩:∃ r:Nat,c.sc = (r:Int):=⟨c.sc.toNat,by have:=ck.sc; omega⟩
  have kbk:=ck.bk
  have klr:=ck.lr
  have klc:=ck.lc
  have kfb:=ck.fb
  have krr:=ck.rr
  have krc:=ck.rc
  have klv:=ck.lv
  have ksr:=ck.sr
  have ksc:=ck.sc
  refine Q3 (ht _ rfl) Tryz.func10 (by kernel_rfl) ?_
  rw [F10_eq]
  unfold K10_0
  refine Yn fun s1 b1 e1 a1 _=>?_
  have q1:=e1.1
  have b11:=a1.1
  refine Ye (ne66) ?_
  generalize hs2:s1.push (.cells W0 66 true) = s2
  have e2:Gr s1 s2:=by rw [← hs2]; exact Gr.push _ _
  have n2:s2.next = s1.next + 1:=by rw [← hs2]; rfl
  have g2:s2.get s1.next = some (.cells W0 66 true):=by rw [← hs2,St.get_push,if_pos rfl]
  have b12:b1 < s1.next:=a1.1
  obtain ⟨m2,hm2⟩:∃ m,s2.next = m:=⟨_,rfl⟩
  have e12:=e1.trans e2
  replace a1:=a1.ext e2
  obtain ⟨b2,hb2⟩:∃ b,s1.next = b:=⟨_,rfl⟩
  rw [hb2] at g2 ⊢
  unfold K10_1
  refine y_atn fun s3 a e3 n3 ha=>X0 ?_
  refine Qj (Q7 (a1.ext e3).2 ag24 sz24 rfl) rfl ?_
  refine y_dnw (mks3 (k:=18) (by omega) (by omega)) fun s4 n4 g4 o4=>?_
  refine Qf (dbl66) ?_
  refine y_dnw ne66 fun s5 n5 g5 o5=>?_
  simp only [na] at g4 o4 g5 o5 ⊢
  obtain ⟨B,hB⟩:∃ B,a + 3 = B:=⟨_,rfl⟩
  rw [hB] at g5 o5 ⊢
  generalize hrj:CV.slice (some (a + 1,0)) 18 (.to 1) = rj
  obtain ⟨s6,hs6⟩:∃ s,s5.put B (.cells (LB c rj [.int .u64 0,.int .i64 0,.int .i64 0,.slice none 0 (.ex 0),.int .u64 0,.int .i64 0,.slice none 0 (.ex 0)] [.int .u64 0,.int .u64 0,.int .i64 0,.slice none 0 (.ex 0),.slice none 0 (.ex 0)] [.int .u64 0,.int .i64 0,.slice none 0 (.ex 0)] [.int .u64 0,.slice none 0 (.ex 0)]) 66 true) = s:=⟨_,rfl⟩
  refine X7 (σ':=s6) (by rw [← hs6]; exact X1 g5 rfl sz66 rfl rfl) ?_
  have n6:s6.next = s2.next + 5:=by rw [← hs6,St.next_put]; omega
  have gB:s6.get B = some (.cells (LB c rj [.int .u64 0,.int .i64 0,.int .i64 0,.slice none 0 (.ex 0),.int .u64 0,.int .i64 0,.slice none 0 (.ex 0)] [.int .u64 0,.int .u64 0,.int .i64 0,.slice none 0 (.ex 0),.slice none 0 (.ex 0)] [.int .u64 0,.int .i64 0,.slice none 0 (.ex 0)] [.int .u64 0,.slice none 0 (.ex 0)]) 66 true):=by rw [← hs6,St.get_put,if_pos rfl]
  have gj:s6.get (a + 1) = some (.cells (List.replicate 18 (.int .i64 0)) 3 true):=by rw [← hs6,St.get_put,if_neg (by omega),o5 _ (by omega)]; exact g4
  have e6:Gr s2 s6:=⟨by omega,fun i hi=>by rw [← hs6,St.get_put,if_neg (by omega),o5 i (by omega),o4 i (by omega)]; exact e3.2 i hi⟩
  have rj0:Rep (fun i=>m2≤i∧i ≠ B) s6 rj (Ww (List.replicate 18 0)):=by
    rw [← hrj]
    exact rep_row ⟨by omega,by omega⟩ (by omega) gj
  replace a1:=a1.ext e6
  replace g2:=(e6.2 b2 (by omega)).trans g2
  have E:=e12.trans e6
  have hBn:B ≠ b1:=by omega
  have hBn2:B ≠ b2:=by omega
  have hBl:B < s6.next:=by omega
  have hBs:s2.next≤B:=by omega
  clear hs6 g4 o4 g5 o5 e3 n3 gj hs2 n4 n5
  -- elastic
  have hbl2:b2 < s2.next:=by omega
  unfold K10_2
  refine Qb (fa24_0) ?_
  refine Qb (Qg a1.2 Zf rfl) ?_
  refine Xs rfl (drow_run (n:=n + 1) ht (by omega) (by omega)) ?_
  unfold K10_3
  refine y_atn fun s7 a' e7 n7 ha'=>X0 ?_
  have cbk:c.cells[1]? = some (.int .i64 nbk):=by rw [← hbk]; rfl
  refine Qf (fa24_2) ?_
  refine Qj (Qg (a1.ext e7).2 ag3 rfl) rfl ?_
  refine Qf (fa24_3) ?_
  refine Qj (Qg (a1.ext e7).2 ag3 rfl) rfl ?_
  refine Qf (fa24_1) ?_
  refine Qj (Qg (i:=1) (a1.ext e7).2 ag3 cbk) rfl ?_
  refine y_dnw (mksN (k:=nbk) un51 in90 zero90 rfl rfl (by omega) (by omega) (by decide)) fun s8 n8 g8 o8=>?_
  simp only [na] at g8 o8 ⊢
  have gB8:s8.get B = _:=(o8 B (by omega)).trans ((e7.2 B hBl).trans gB)
  refine Qf (dbl54) ?_
  refine Qf (fa66_4) ?_
  obtain ⟨s9,hs9⟩:∃ s,s8.put B (.cells (LB c rj [.int .u64 (Xa c.seed 30:Nat),.int .i64 c.en,.int .i64 c.vo,.slice (some (a' + 7,0)) nbk (.to 2),.int .u64 0,.int .i64 0,.slice none 0 (.ex 0)] [.int .u64 0,.int .u64 0,.int .i64 0,.slice none 0 (.ex 0),.slice none 0 (.ex 0)] [.int .u64 0,.int .i64 0,.slice none 0 (.ex 0)] [.int .u64 0,.slice none 0 (.ex 0)]) 66 true) = s:=⟨_,rfl⟩
  refine X7 (σ':=s9) (by rw [← hs9]; exact X1 gB8 rfl sz54 rfl rfl) ?_
  have gB9:=congrArg (fun s=>St.get s B) hs9
  rw [St.get_put,if_pos rfl] at gB9
  have e9:GrX B s6 s9:=by
    rw [← hs9]
    exact ⟨by rw [St.next_put]; omega,fun i hi hn=>by rw [St.get_put,if_neg hn,o8 i (by omega)]; exact e7.2 i hi⟩
  have rb:Rep (fun i=>m2≤i∧i ≠ B) s9 (.slice (some (a' + 7,0)) nbk (.to 2)) (.sl 2 (List.replicate nbk bucket0)):=
    rep_fill ⟨by omega,by omega⟩ (by rw [← hs9,St.next_put]; omega) (by rw [← hs9,St.get_put,if_neg (by omega)]; exact g8) rfl (.cons .nil (.cons (.flat rfl) .nil))
  have a9:=a1.extx e9 (by omega)
  generalize hbv:CV.slice (some (a' + 7,0)) nbk (.to 2) = bv at *
  clear hs9 g8 o8 gB8 e7 n7 n8 a1 gB
  unfold K10_4
  refine X0 ?_
  have clr:c.cells[4]? = some (.int .i64 nlr):=by rw [← hlr]; rfl
  have clc:c.cells[5]? = some (.int .i64 nlc):=by rw [← hlc]; rfl
  have l4:ldO (C M) 3 (P b1 (0 + 4)) s9 = .val (I (nlr:Nat)):=Qg (i:=4) a9.2 ag3 clr
  have l5:ldO (C M) 3 (P b1 (0 + 5)) s9 = .val (I (nlc:Nat)):=Qg (i:=5) a9.2 ag3 clc
  refine Vd rfl (drow_run (n:=n + 1) ht (by omega) (by omega)) ?_
  refine Qf (fa24_4) ?_
  refine Y1 rfl l4 l4 l4 rfl ?_
  refine Qf (fa24_5) ?_
  refine Y1 rfl l5 l5 l5 rfl ?_
  refine y_dcyl rfl (noughts_run (n:=n + 5) ht (by omega) (by omega)) fun v s10 ⟨e10,lv,hv,rl⟩=>?_
  subst hv
  have gB10:=(e10.2 B (by have:=e9.1; omega)).trans gB9.symm
  refine Qf (dbl52) ?_
  refine Qf (fa66_4) ?_
  refine Qf (fa54_4) ?_
  obtain ⟨s11,hs11⟩:∃ s,s10.put B (.cells (LB c rj [.int .u64 (Xa c.seed 30:Nat),.int .i64 c.en,.int .i64 c.vo,bv,.int .u64 (Xa (Xa c.seed 30) 1:Nat),.int .i64 255,lv] [.int .u64 0,.int .u64 0,.int .i64 0,.slice none 0 (.ex 0),.slice none 0 (.ex 0)] [.int .u64 0,.int .i64 0,.slice none 0 (.ex 0)] [.int .u64 0,.slice none 0 (.ex 0)]) 66 true) = s:=⟨_,rfl⟩
  refine X7 (σ':=s11) (by rw [← hs11]; exact X1 gB10 rfl sz52 rfl rfl) ?_
  have gB11:=congrArg (fun s=>St.get s B) hs11
  rw [St.get_put,if_pos rfl] at gB11
  have e911:GrX B s9 s11:=by rw [← hs11]; exact (Gr.x e10).put _
  have e911n:=e9.1
  have pels:RepL (fun i=>m2≤i∧i ≠ B) s11 [.int .u64 (Xa c.seed 30:Nat),.int .i64 c.en,.int .i64 c.vo,bv,.int .u64 (Xa (Xa c.seed 30) 1:Nat),.int .i64 255,lv] (newEls (Xa c.seed 30) c).d:=by
    rw [newEls_d,hbk,hlr,hlc]
    simp only [Int.toNat_natCast]
    exact .cons (.flat rfl) (.cons (.flat rfl) (.cons (.flat rfl) (.cons (Rep.extx rb e911 fun i hi=>hi.2) (.cons (.flat rfl) (.cons (.flat rfl) (.cons (rl.to fun i hi hlt=>⟨by rw [← hs11,St.get_put,if_neg (by omega)],by rw [← hs11,St.next_put]; exact hlt,by omega,by omega⟩) .nil))))))
  have E11:=e9.trans e911
  have a11:=a9.extx e911 (by omega)
  clear hs11 gB10 e10 gB9 rb rl l4 l5 a9 e911 e9
  -- radar
  unfold K10_5
  refine Qb (fa24_0) ?_
  refine Qb (Qg a11.2 Zf rfl) ?_
  refine Xs rfl (drow_run (n:=n + 1) ht (by omega) (by omega)) ?_
  unfold K10_6
  refine X0 ?_
  have cfb:c.cells[6]? = some (.int .i64 nfb):=by rw [← hfb]; rfl
  have l6:ldO (C M) 3 (P b1 (0 + 6)) s11 = .val (I (nfb:Nat)):=Qg (i:=6) a11.2 ag3 cfb
  have l7:ldO (C M) 3 (P b1 (0 + 7)) s11 = .val (I c.fh):=Qg (i:=7) a11.2 ag3 rfl
  refine Vd rfl (drow_run (n:=n + 1) ht (by omega) (by omega)) ?_
  refine Qf (fa24_6) ?_
  refine Y1 rfl l6 l6 l6 rfl ?_
  refine Qf (fa24_7) ?_
  refine Y1 rfl l7 l7 l7 rfl ?_
  refine y_dcyl rfl (d10_run (n:=n + 5) ht (by omega)) fun v s12 ⟨e12',fv,hv,rf⟩=>?_
  subst hv
  have gB12:=(e12'.2 B (by have:=E11.1; omega)).trans gB11.symm
  refine Qf (dbl58) ?_
  refine Qf (fa66_5) ?_
  obtain ⟨s13,hs13⟩:∃ s,s12.put B (.cells (LB c rj [.int .u64 (Xa c.seed 30:Nat),.int .i64 c.en,.int .i64 c.vo,bv,.int .u64 (Xa (Xa c.seed 30) 1:Nat),.int .i64 255,lv] [.int .u64 (Xa c.seed 31:Nat),.int .u64 (Xa (Xa c.seed 31) 0:Nat),.int .i64 c.fh,fv,.slice none 0 (.ex 0)] [.int .u64 0,.int .i64 0,.slice none 0 (.ex 0)] [.int .u64 0,.slice none 0 (.ex 0)]) 66 true) = s:=⟨_,rfl⟩
  refine X7 (σ':=s13) (by rw [← hs13]; exact X1 gB12 rfl sz58 rfl rfl) ?_
  have gB13:=congrArg (fun s=>St.get s B) hs13
  rw [St.get_put,if_pos rfl] at gB13
  have e1113:GrX B s11 s13:=by rw [← hs13]; exact (Gr.x e12').put _
  have l1113:=e1113.1
  have l611:=E11.1
  have rf':Rep (fun i=>m2≤i∧i ≠ B) s13 fv (Zk (List.replicate nfb false)):=rf.to fun i hi hlt=>⟨by rw [← hs13,St.get_put,if_neg (by omega)],by rw [← hs13,St.next_put]; exact hlt,by omega,by omega⟩
  have a13:=a11.extx e1113 (by omega)
  have pels13:=RepL.extx pels e1113 fun i hi=>hi.2
  clear hs13 gB12 e12' gB11 rf l6 l7 pels
  unfold K10_7 K10_16
  have crr:c.cells[8]? = some (.int .i64 nrr):=by rw [← hrr]; rfl
  have crc:c.cells[9]? = some (.int .i64 nrc):=by rw [← hrc]; rfl
  generalize hEL:[CV.int .u64 (Xa c.seed 30:Nat),.int .i64 c.en,.int .i64 c.vo,bv,.int .u64 (Xa (Xa c.seed 30) 1:Nat),.int .i64 255,lv] = EL at *
  obtain ⟨w1,w2,w3,w4,w5,w6,w7,hw⟩:∃ w1 w2 w3 w4 w5 w6 w7,EL = [w1,w2,w3,w4,w5,w6,w7]:=⟨_,_,_,_,_,_,_,hEL.symm⟩
  subst hw
  refine Yb (L:=fun f' j s=>L10_17 M (Ql (C M) tab (n + 6)) f' (P b1 0) (P b2 0) (P B 0) (I (j:Nat)) s) (n:=nrr)
    (fun j s=>GrX B s13 s∧∃ rv,some (Blk.cells (LB c rj [w1,w2,w3,w4,w5,w6,w7] [.int .u64 (Xa c.seed 31:Nat),.int .u64 (Xa (Xa c.seed 31) 0:Nat),.int .i64 c.fh,fv,rv] [.int .u64 0,.int .i64 0,.slice none 0 (.ex 0)] [.int .u64 0,.slice none 0 (.ex 0)]) 66 true) = s.get B∧Bld 0 s13.next s 0 95 rv (List.replicate j [dCells nrc]))
    (fun f' j s hj hi hkk=>?_) (fun f' s14 hi=>?_) 0 M s13 (by omega) (by unfold M; omega) ⟨GrX.refl _,_,gB13,Bld.nil⟩
  · obtain ⟨ex,rv,gs,hb⟩:=hi
    have lx:=ex.1
    rw [L10_17_succ]
    have az:=a13.extx ex (by omega)
    have hat:=fun i (hi:X5 rv i)=>hb.at hi
    unfold L10_17_b
    refine Qb (fa24_8) ?_
    refine Qb (Qg (i:=8) az.2 ag3 crr) ?_
    refine Qb (Xi (by omega)) ?_
    refine Xc (rfl) ?_
    unfold K10_18 K10_20 K10_22
    refine y_fora (L:=fun f2 i cv s=>L10_23 M (Ql (C M) tab (n + 6)) (L10_17 M (Ql (C M) tab (n + 6)) f') f2 (P b1 0) (P b2 0) (P B 0) (I (j:Nat)) (.one cv) (I (i:Nat)) s) (n:=nrc)
      (fun i cv2 s2=>Gr s s2∧Bld 0 s.next s2 3 98 cv2 (List.replicate i cell0)) (fun f2 i cv2 s2 hi2 hinv hk2=>?_) (fun f2 cv2 s2 hinv=>?_) 0 M (.slice none 0 (.ex 0)) s (by omega) (by unfold M; omega) ⟨Gr.refl _,Bld.nil⟩
    · obtain ⟨e4,hb2⟩:=hinv
      rw [L10_23_succ]
      have a4:=az.ext e4
      have l4:=e4.1
      have hat2:=fun i (hi:X5 cv2 i)=>hb2.at hi
      unfold L10_23_b
      refine Qb (fa24_9) ?_
      refine Qb (Qg (i:=9) a4.2 ag3 crc) ?_
      refine Qb (Xi (by omega)) ?_
      refine Xc (rfl) ?_
      unfold K10_24
      refine Ye (mk37) ?_
      have eg:Gr s2 (s2.push (.cells (Y2 zeros37) 5 true)):=Gr.push _ _
      have ng:(s2.push (.cells (Y2 zeros37) 5 true)).next = s2.next + 1:=rfl
      refine Qb (o_cvS (bs:=zeros37) un130 un5 un9 (by rw [St.get_push,if_pos rfl]) rfl rfl) ?_
      refine Qb (dbl98) ?_
      refine y_app un95 in98 (by kernel_rfl) (by kernel_rfl) (by decide) bs4_95 (hb2.ext eg) (by omega) (x:=cell0) (.cons (.flat rfl) (.cons (.flat rfl) (.cons (.flat rfl) (.cons (.flat rfl) .nil)))) rfl (by simp; omega) fun s5 cv5 hb5 n5 o5=>?_
      unfold K10_25
      refine Qb (Xy (by omega)) ?_
      refine hk2 cv5 s5 ⟨⟨by omega,fun i hi=>by rw [o5 i (by omega) (fun h=>by have:=hat2 _ h; omega),eg.2 i (by omega)]; exact e4.2 i hi⟩,?_⟩
      rw [List.replicate_succ']
      exact hb5
    · obtain ⟨e4,hb2⟩:=hinv
      rw [L10_23_succ]
      have a4:=az.ext e4
      have l4:=e4.1
      unfold L10_23_b
      refine Qb (fa24_9) ?_
      refine Qb (Qg (i:=9) a4.2 ag3 crc) ?_
      refine Qb (Q4 (by omega)) ?_
      refine Qx (rfl) ?_
      have gs2:=(e4.2 B (by omega)).trans gs.symm
      have aB:At s2 B 0 _:=⟨by omega,Lies.of gs2⟩
      unfold Wl
      refine Qb (fa66_5) ?_
      refine Qb (Nh) ?_
      refine Qb (Qg (i:=32) aB.2 ag56 rfl) ?_
      have r2:=hb2.rep (ok:=fun i=>(i < 0 ∨ s13.next≤i)∧¬ X5 rv i) fun i hi=>⟨.inr (by omega),fun h=>by have:=hat _ h; omega⟩
      refine y_app un56 in95 (by kernel_rfl) (by kernel_rfl) (by decide) bs1_56 (hb.ext e4) (by omega) (x:=[dCells nrc]) (.cons r2 .nil) rfl (by simp; omega) fun s5 cv5 hb5 n5 o5=>?_
      have gs5:=(o5 B (by omega) (fun h=>by have:=hat _ h; omega)).trans gs2
      refine Qb (fa66_5) ?_
      refine Qb (Nh) ?_
      refine Yj (X1 gs5 rfl sz56 rfl rfl) ?_
      unfold Zg
      refine Qb (Xy (by omega)) ?_
      refine hkk _ ⟨⟨by rw [St.next_put]; omega,fun i hi hn=>by rw [St.get_put,if_neg hn,o5 i (by omega) (fun h=>by have:=hat _ h; omega),e4.2 i (by omega)]; exact ex.2 i hi hn⟩,cv5,by rw [St.get_put,if_pos rfl]; rfl,?_⟩
      rw [List.replicate_succ']
      exact hb5.to (by rw [St.next_put]; exact Nat.le_refl _) fun i hi hlt=>by rw [St.get_put,if_neg (by omega)]
  obtain ⟨ex,rv,gs,hb⟩:=hi
  have lx:=ex.1
  rw [L10_17_succ]
  have az:=a13.extx ex (by omega)
  unfold L10_17_b
  refine Qb (fa24_8) ?_
  refine Qb (Qg (i:=8) az.2 ag3 crr) ?_
  refine Qb (Q4 (by omega)) ?_
  refine Qx (rfl) ?_
  have prad:RepL (fun i=>m2≤i∧i ≠ B) s14 [.int .u64 (Xa c.seed 31:Nat),.int .u64 (Xa (Xa c.seed 31) 0:Nat),.int .i64 c.fh,fv,rv] (newRad (Xa c.seed 31) c).d:=by
    rw [newRad_d,hfb,hrr,hrc]
    simp only [Int.toNat_natCast]
    exact .cons (.flat rfl) (.cons (.flat rfl) (.cons (.flat rfl) (.cons (Rep.extx rf' ex fun i hi=>hi.2) (.cons (hb.rep fun i hi=>⟨by omega,by omega⟩) .nil))))
  have pels14:=RepL.extx pels13 ex fun i hi=>hi.2
  have E14:=(E11.trans e1113).trans ex
  have l614:=E14.1
  clear rf' hb ex gB13 a13 pels13 E11 e1113 a11 lx l1113 l611
  -- univ
  unfold Yz
  refine Qb (fa24_0) ?_
  refine Qb (Qg az.2 Zf rfl) ?_
  refine Xs rfl (drow_run (n:=n + 1) ht (by omega) (by omega)) ?_
  unfold K10_9
  refine Qb (fa24_13) ?_
  refine Qb (Qg az.2 ag3 rfl) ?_
  refine Qb (dbl61) ?_
  refine Qb (fa66_6) ?_
  generalize hRD:[CV.int .u64 (Xa c.seed 31:Nat),.int .u64 (Xa (Xa c.seed 31) 0:Nat),.int .i64 c.fh,fv,rv] = RD at *
  obtain ⟨r1,r2,r3,r4,r5,hr⟩:∃ r1 r2 r3 r4 r5,RD = [r1,r2,r3,r4,r5]:=⟨_,_,_,_,_,hRD.symm⟩
  subst hr
  obtain ⟨s15,hs15⟩:∃ s,s14.put B (.cells (LB c rj [w1,w2,w3,w4,w5,w6,w7] [r1,r2,r3,r4,r5] [.int .u64 (Xa c.seed 32:Nat),.int .i64 c.tp,.slice none 0 (.ex 0)] [.int .u64 0,.slice none 0 (.ex 0)]) 66 true) = s:=⟨_,rfl⟩
  refine Yj (σ':=s15) (by rw [← hs15]; exact X1 gs.symm rfl sz61 rfl rfl) ?_
  have gB15:=congrArg (fun s=>St.get s B) hs15
  rw [St.get_put,if_pos rfl] at gB15
  have e1415:GrX B s14 s15:=by rw [← hs15]; exact (GrX.refl _).put _
  have a15:=az.extx e1415 (by omega)
  have pels15:=RepL.extx pels14 e1415 fun i hi=>hi.2
  have prad15:=RepL.extx prad e1415 fun i hi=>hi.2
  have E15:=E14.trans e1415
  have l615:=E15.1
  clear hs15 gs e1415 az pels14 prad E14 l614
  unfold K10_10 K10_12
  have clv:c.cells[10]? = some (.int .i64 nlv):=by rw [← hlv]; rfl
  have csr:c.cells[11]? = some (.int .i64 nsr):=by rw [← hsr]; rfl
  have csc:c.cells[12]? = some (.int .i64 nsc):=by rw [← hsc]; rfl
  refine Yb (L:=fun f' j s=>L10_13 M (Ql (C M) tab (n + 6)) f' (P b1 0) (P b2 0) (P B 0) (Iu (Xa c.seed 32:Nat)) (I (j:Nat)) s) (n:=nlv)
    (fun j s=>GrX B s15 s∧∃ uv,some (Blk.cells (LB c rj [w1,w2,w3,w4,w5,w6,w7] [r1,r2,r3,r4,r5] [.int .u64 (Xa c.seed 32:Nat),.int .i64 c.tp,uv] [.int .u64 0,.slice none 0 (.ex 0)]) 66 true) = s.get B∧Bld 0 s15.next s 2 107 uv (Wa (Xa c.seed 32) nsr nsc j))
    (fun f' j s hj hi hkk=>?_) (fun f' s16 hi=>?_) 0 M s15 (by omega) (by unfold M; omega) ⟨GrX.refl _,_,gB15,Bld.nil⟩
  · obtain ⟨ex,uv,gs,hb⟩:=hi
    have lx:=ex.1
    rw [L10_13_succ]
    have az:=a15.extx ex (by omega)
    have hat:=fun i (hi:X5 uv i)=>hb.at hi
    unfold L10_13_b
    refine Qb (fa24_10) ?_
    refine Qb (Qg (i:=10) az.2 ag3 clv) ?_
    refine Qb (Xi (by omega)) ?_
    refine Xc (rfl) ?_
    unfold K10_14
    refine y_atn fun s5 p e5 n5 hp=>X0 ?_
    have a5:=az.ext e5
    have l11:ldO (C M) 3 (P b1 (0 + 11)) s5 = .val (I (nsr:Nat)):=Qg (i:=11) a5.2 ag3 csr
    have l12:ldO (C M) 3 (P b1 (0 + 12)) s5 = .val (I (nsc:Nat)):=Qg (i:=12) a5.2 ag3 csc
    refine Qf (Xy (by omega)) ?_
    refine Vd rfl (drow_run (n:=n + 1) ht (by omega) (by omega)) ?_
    refine Qf (fa24_11) ?_
    rw [show (((j + 1:Nat):Int)).toNat = j + 1 from Int.toNat_natCast _]
    refine Y1 rfl l11 l11 l11 rfl ?_
    refine Qf (fa24_12) ?_
    refine Y1 rfl l12 l12 l12 rfl ?_
    refine y_dcyl rfl (noughts_run (n:=n + 5) ht (by omega) (by omega)) fun v s6 ⟨e6,nv,hv,rn⟩=>?_
    subst hv
    have l56:=e6.1
    refine Qf (dbl104) ?_
    refine y_dnw ne104 fun s7 n7 g7 o7=>?_
    simp only [na] at g7 o7 ⊢
    obtain ⟨s8,q8,n8,a8,o8⟩:=st_at (cs:=[.int .u64 (Xa (Xa c.seed 32) (j + 1):Nat),nv]) g7 rfl sz104 (by omega)
    refine X7 q8 ?_
    have e8:Gr s s8:=⟨by omega,fun i hi=>by rw [o8 i (by omega),o7 i (by omega),e6.2 i (by omega)]; exact e5.2 i hi⟩
    have gs8:=(e8.2 B (by omega)).trans gs.symm
    have aB:At s8 B 0 _:=⟨by omega,Lies.of gs8⟩
    refine Qb (fa66_6) ?_
    refine Qb (fa61_2) ?_
    refine Qb (Qg (i:=35) aB.2 ag59 rfl) ?_
    refine Qb (Q7 a8.2 ag104 sz104 rfl) ?_
    refine Qb (dbl107) ?_
    have rn8:Rep (fun i=>(i < 0 ∨ s15.next≤i)∧¬ X5 uv i) s8 nv (V1 (List.replicate nsr (List.replicate nsc 0))):=rn.to fun i hi hlt=>⟨by rw [o8 i (by omega),o7 i (by omega)],by omega,.inr (by omega),fun h=>by have:=hat _ h; omega⟩
    refine y_app un59 in107 (by kernel_rfl) (by kernel_rfl) (by decide) bs3_59 (hb.ext e8) (by omega) (x:=level0 (Xa c.seed 32) nsr nsc j) (.cons (.flat rfl) (.cons rn8 (.cons .nil .nil))) rfl (by unfold Wa; simp; omega) fun s9 cv9 hb9 n9 o9=>?_
    have gs9:=(o9 B (by omega) (fun h=>by have:=hat _ h; omega)).trans gs8
    refine Qb (fa66_6) ?_
    refine Qb (fa61_2) ?_
    refine Yj (X1 gs9 rfl sz59 rfl rfl) ?_
    unfold K10_15
    refine Qb (Xy (by omega)) ?_
    refine hkk _ ⟨⟨by rw [St.next_put]; omega,fun i hi hn=>by rw [St.get_put,if_neg hn,o9 i (by omega) (fun h=>by have:=hat _ h; omega),e8.2 i (by omega)]; exact ex.2 i hi hn⟩,cv9,by rw [St.get_put,if_pos rfl]; rfl,?_⟩
    have hlev:Wa (Xa c.seed 32) nsr nsc (j + 1) = Wa (Xa c.seed 32) nsr nsc j ++ [level0 (Xa c.seed 32) nsr nsc j]:=by
      unfold Wa
      rw [List.range_succ,List.map_append]; rfl
    rw [hlev]
    exact hb9.to (by rw [St.next_put]; exact Nat.le_refl _) fun i hi hlt=>by rw [St.get_put,if_neg (by omega)]
  obtain ⟨ex,uv,gs,hb⟩:=hi
  have lx:=ex.1
  rw [L10_13_succ]
  have az:=a15.extx ex (by omega)
  unfold L10_13_b
  refine Qb (fa24_10) ?_
  refine Qb (Qg (i:=10) az.2 ag3 clv) ?_
  refine Qb (Q4 (by omega)) ?_
  refine Qx (rfl) ?_
  have punv:RepL (fun i=>m2≤i∧i ≠ B) s16 [.int .u64 (Xa c.seed 32:Nat),.int .i64 c.tp,uv] (newUnv (Xa c.seed 32) c).d:=by
    rw [newUnv_d,hlv,hsr,hsc]
    simp only [Int.toNat_natCast]
    exact .cons (.flat rfl) (.cons (.flat rfl) (.cons (hb.rep fun i hi=>⟨by omega,by omega⟩) .nil))
  have pels16:=RepL.extx pels15 ex fun i hi=>hi.2
  have prad16:=RepL.extx prad15 ex fun i hi=>hi.2
  have E16:=E15.trans ex
  have l616:=E16.1
  clear hb ex gB15 a15 pels15 prad15 E15 l615 lx
  -- spread
  unfold Vx
  refine X0 ?_
  refine Qf (fa24_0) ?_
  refine Qj (Qg az.2 Zf rfl) rfl ?_
  refine Vd rfl (drow_run (n:=n + 1) ht (by omega) (by omega)) ?_
  have lc:=Q7 az.2 ag24 sz24 rfl
  refine Y1 rfl lc lc lc rfl ?_
  refine y_dcyl rfl (spreads_run (n:=n) ht ck) fun v s17 ⟨e17,sv,hv,rs⟩=>?_
  subst hv
  have l17:=e17.1
  have gB17:=(e17.2 B (by omega)).trans gs.symm
  refine Qf (fa66_7) ?_
  obtain ⟨s18,hs18⟩:∃ s,s17.put B (.cells (LB c rj [w1,w2,w3,w4,w5,w6,w7] [r1,r2,r3,r4,r5] [.int .u64 (Xa c.seed 32:Nat),.int .i64 c.tp,uv] [.int .u64 (Xa c.seed 33:Nat),sv]) 66 true) = s:=⟨_,rfl⟩
  refine X7 (σ':=s18) (by rw [← hs18]; exact X1 gB17 rfl sz64 rfl rfl) ?_
  have gB18:=congrArg (fun s=>St.get s B) hs18
  rw [St.get_put,if_pos rfl] at gB18
  have e1618:GrX B s16 s18:=by rw [← hs18]; exact (Gr.x e17).put _
  have l1618:=e1618.1
  have aB:At s18 B 0 _:=⟨by omega,Lies.of gB18.symm⟩
  have g2':s18.get b2 = some (.cells W0 66 true):=by rw [e1618.2 b2 (by omega) (by omega),E16.2 b2 (by omega) (by omega)]; exact g2
  refine Qb (Q7 aB.2 ag66 sz66 rfl) ?_
  refine Yj (X1 g2' rfl sz66 rfl rfl) ?_
  refine y_ret1 (Y7 (by rw [St.get_put,if_pos rfl]) rfl ag66 sz66 rfl) ⟨⟨by rw [St.next_put]; have:=E.1; omega,fun i hi=>by
    have:=E.1
    rw [St.get_put,if_neg (by omega),e1618.2 i (by omega) (by omega),E16.2 i (by omega) (by omega)]
    exact E.2 i hi⟩,_,rfl,?_⟩
  have pspr:RepL (fun i=>m2≤i∧i ≠ B) s18 [.int .u64 (Xa c.seed 33:Nat),sv] (newSpr (Xa c.seed 33) c).d:=by
    rw [newSpr_d]
    exact .cons (.flat rfl) (.cons (rs.to fun i hi hlt=>⟨by rw [← hs18,St.get_put,if_neg (by omega)],by rw [← hs18,St.next_put]; exact hlt,by have:=E.1; omega,by omega⟩) .nil)
  have fin:RepL (fun i=>m2≤i∧i ≠ B) s18 (c.cells ++ [.int .i64 0,.int .i64 0,rj] ++ [w1,w2,w3,w4,w5,w6,w7] ++ [r1,r2,r3,r4,r5] ++ [.int .u64 (Xa c.seed 32:Nat),.int .i64 c.tp,uv] ++ [.int .u64 (Xa c.seed 33:Nat),sv]) (newB c).d:=by
    unfold Bnk.d
    refine RepL.append (RepL.append (RepL.append (RepL.append (RepL.append (cfg_rep c) (.cons (.flat rfl) (.cons (.flat rfl) (.cons (Rep.extx rj0 (E16.trans e1618) fun i hi=>hi.2) .nil)))) (RepL.extx pels16 e1618 fun i hi=>hi.2)) (RepL.extx prad16 e1618 fun i hi=>hi.2)) (RepL.extx punv e1618 fun i hi=>hi.2)) pspr
  exact fin.to fun i hi hlt=>⟨by rw [St.get_put,if_neg (by have:=hi.1; omega)],by rw [St.next_put]; exact hlt,by have:=hi.1; have:=e12.1; omega⟩
end
end Core
end Go.Proofs.YtjfgdcegpgoobaaGreatDoor
namespace Go.Proofs.YtjfgdcegpgoobaaGreatDoor
open Go.Run Go
namespace Core
open Ty
set_option maxRecDepth 1000000
structure Sml (x:Bnk):Prop where
  rej:x.rejects.length≤1000
  bk:x.els.buckets.length≤1000
  en:∀ b ∈ x.els.buckets,b.ents.length≤1000
  lrows:x.els.rows.length≤1000∧∀ r ∈ x.els.rows,r.length≤1000
  bits:x.rad.bits.length≤1000
  rrows:x.rad.rows.length≤1000∧∀ r ∈ x.rad.rows,r.length≤1000
  lev:x.unv.levels.length≤1000
  each:∀ l ∈ x.unv.levels,(l.rows.length≤1000∧∀ r ∈ l.rows,r.length≤1000)∧l.top.length≤1000
  srows:x.spr.rows.length≤1000∧∀ r ∈ x.spr.rows,r.length≤1000
  smaps:∀ r ∈ x.spr.rows,∀ b ∈ r,b.rows.length≤1000∧∀ q ∈ b.rows,q.length≤1000
theorem Sml.few {x:Bnk} (h:Sml x):FewBnk x:=by
  have few:∀ {α:Type} {l:List (List α)},(l.length≤1000∧∀ r ∈ l,r.length≤1000)→Few l:=fun h=>⟨by omega,fun r hr=>by have:=h.2 r hr; omega⟩
  exact ⟨by have:=h.rej; omega,⟨by have:=h.bk; omega,fun b hb=>by have:=h.en b hb; omega,few h.lrows⟩,⟨by have:=h.bits; omega,few h.rrows⟩,⟨by have:=h.lev; omega,fun l hl=>⟨few (h.each l hl).1,by have:=(h.each l hl).2; omega⟩⟩,⟨few h.srows,fun r hr b hb=>few (h.smaps r hr b hb)⟩⟩
theorem GBnk.sml {x:Bnk} (g:GBnk x):Sml x:=by
  have ck:=cfg_ok g.cfg
  obtain ⟨k1,k2,k3,k4,k5,k6,k7,k8,k9,k10,_,k11,k12,k13,k14,k15,k16⟩:_∧_∧_∧_∧_∧_∧_∧_∧_∧_∧True∧_∧_∧_∧_∧_∧_:=⟨ck.bk,ck.en,ck.lr,ck.lc,ck.fb,ck.rr,ck.rc,ck.lv,ck.sr,ck.sc,trivial,ck.tp,ck.xr,ck.xc,ck.ml,ck.mb,ck.vo⟩
  have sh:∀ {α:Type} {l:List (List α)} {r k:Nat},Shp l r k→r≤1000→k≤1000→l.length≤1000∧∀ r ∈ l,r.length≤1000:=fun h hr hk=>⟨by rw [h.1]; exact hr,fun r hr'=>by rw [h.2 r hr']; exact hk⟩
  refine ⟨by rw [g.rejs]; decide,by rw [g.els.bks]; omega,fun b hb=>by rw [(g.els.each b hb).ents]; decide,sh g.els.shp (by omega) (by omega),by rw [g.rad.bits]; omega,sh g.rad.shp (by omega) (by omega),by rw [g.unv.len]; omega,fun l hl=>?_,sh g.spr.shp (by omega) (by omega),fun r hr b hb=>sh (g.spr.vals r hr b hb).shp (by omega) (by omega)⟩
  obtain ⟨j,hj,rfl⟩:=List.getElem_of_mem hl
  have gl:=g.unv.each j _ (List.getElem?_eq_getElem hj)
  exact ⟨sh gl.shp (by omega) (by omega),by rw [gl.top]; decide⟩
theorem take_one {α β:Type} {l:List α} {j:Nat} {y:α} (f:α→β) (h:l[j]? = some y):(l.take (j + 1)).map f = (l.take j).map f ++ [f y]:=by
  rw [List.take_add_one,h,List.map_append]; rfl
theorem take_len {α:Type} {l:List α} {j:Nat}:(l.take j).length≤l.length:=by rw [List.length_take]; omega
theorem grx_gr {p:Nat} {σ a b:St} (h:Gr σ a) (e:GrX p a b) (hp:σ.next≤p):Gr σ b:=⟨Nat.le_trans h.1 e.1,fun i hi=>(e.2 i (Nat.lt_of_lt_of_le hi h.1) (by omega)).trans (h.2 i hi)⟩
section
variable {σ:St} {x:Bnk}
theorem dbl66r {p b:Int} {cv:CV} {c:Cfg}:Xp (C M) 66 [(0,.agg c.cells),(1,I p),(2,I b),(3,.one cv)] σ = .val (.agg (c.cells ++ [.int .i64 p,.int .i64 b,cv] ++ tailZ)):=by kernel_rfl
theorem dbl54r {u a b w d:Int} {cv:CV}:Xp (C M) 54 [(0,Iu u),(1,I a),(2,I b),(4,.agg [.int .u64 w,.int .i64 d,cv])] σ = .val (.agg [.int .u64 u,.int .i64 a,.int .i64 b,.slice none 0 (.ex 0),.int .u64 w,.int .i64 d,cv]):=by kernel_rfl
theorem dbl90 {a:Int}:Xp (C M) 90 [(1,I a)] σ = .val (.agg [.slice none 0 (.ex 0),.int .i64 a]):=by kernel_rfl
theorem dbl120r {u a:Int} {cv:CV} {s:List UInt8}:Xp (C M) 120 [(0,.agg [.int .u64 u,cv]),(1,S s),(2,I a)] σ = .val (.agg [.int .u64 u,cv,.str ⟨⟨s⟩⟩,.int .i64 a]):=by kernel_rfl
theorem ne92:Xe (C M) 92 σ = .new (.cells [.str ⟨⟨[]⟩⟩,.int .i64 0,.bool false] 92 true) (fun a=>P a 0):=by kernel_rfl
theorem ne97:Xe (C M) 97 σ = .new (.cells [.str ⟨⟨[]⟩⟩,.int .i64 0,.int .i64 0,.int .i64 0] 97 true) (fun a=>P a 0):=by kernel_rfl
theorem ne109:Xe (C M) 109 σ = .new (.cells [.str ⟨⟨[]⟩⟩,.int .i64 0] 109 true) (fun a=>P a 0):=by kernel_rfl
theorem ne107:Xe (C M) 107 σ = .new (.cells [.int .u64 0,.slice none 0 (.ex 0),.slice none 0 (.ex 0)] 107 true) (fun a=>P a 0):=by kernel_rfl
theorem ent_rep {ok:Nat→Prop} {x:Ent}:RepL ok σ [.str ⟨⟨x.key⟩⟩,.int .i64 x.votes,.bool x.flag] x.d:=.cons (.flat rfl) (.cons (.flat rfl) (.cons (.flat rfl) .nil))
theorem cel_rep {ok:Nat→Prop} {x:Cel}:RepL ok σ [.str ⟨⟨x.xor⟩⟩,.int .i64 x.flows,.int .i64 x.packets,.int .i64 x.bytes] x.d:=.cons (.flat rfl) (.cons (.flat rfl) (.cons (.flat rfl) (.cons (.flat rfl) .nil)))
theorem itm_rep {ok:Nat→Prop} {x:Itm}:RepL ok σ [.str ⟨⟨x.key⟩⟩,.int .i64 x.count] x.d:=.cons (.flat rfl) (.cons (.flat rfl) .nil)
end
abbrev LR (x:Bnk) (rj:CV) (e r u s:List CV):List CV:=x.cfg.cells ++ [.int .i64 x.packets,.int .i64 x.bytes,rj] ++ e ++ r ++ u ++ s
end Core
end Go.Proofs.YtjfgdcegpgoobaaGreatDoor
namespace Go.Proofs.YtjfgdcegpgoobaaGreatDoor
open Go.Run Go
namespace Core
open Ty
set_option maxRecDepth 1000000
section
variable {call:Qd} {σ s0:St} {x:Bnk} {b1 b2 B:Nat} {rj bv lv fv rr uv sv:CV} {Q:AV→St→Prop}
theorem ref_els (hsm:Sml x) (e0:Gr σ s0) (hB:σ.next≤B) (hB2:B < s0.next) (hb1:b1 < B)
    (a1:At s0 b1 0 (x.cfg.cells ++ [.int .i64 x.packets,.int .i64 x.bytes,rj,.int .u64 x.els.seed,.int .i64 x.els.room,.int .i64 x.els.votes,bv,.int .u64 x.els.lseed,.int .i64 x.els.most,lv,.int .u64 x.rad.seed,.int .u64 x.rad.fseed,.int .i64 x.rad.hashes,fv,rr,.int .u64 x.unv.seed,.int .i64 x.unv.room,uv,.int .u64 x.spr.seed,sv]))
    {r1 r2 r3 r4 r5 u1 u2 u3 p1 p2:CV}
    (gB:s0.get B = some (.cells (LR x rj [.int .u64 0,.int .i64 0,.int .i64 0,.slice none 0 (.ex 0),.int .u64 0,.int .i64 0,.slice none 0 (.ex 0)] [r1,r2,r3,r4,r5] [u1,u2,u3] [p1,p2]) 66 true))
    (rb:Rep (fun i=>i < σ.next) σ bv (.sl 2 (x.els.buckets.map Bkt.d)))
    (hk:∀ s' cv,GrX B s0 s'→s'.get B = some (.cells (LR x rj [.int .u64 x.els.seed,.int .i64 x.els.room,.int .i64 x.els.votes,cv,.int .u64 x.els.lseed,.int .i64 x.els.most,lv] [r1,r2,r3,r4,r5] [u1,u2,u3] [p1,p2]) 66 true)→Rep (fun i=>i < σ.next ∨ s0.next≤i) s' cv (.sl 2 (x.els.buckets.map Bkt.d))→Yl (Zn M call (P b1 0) (P b2 0) (P B 0) s') Q) :
    Yl (K7_2 M call (P b1 0) (P b2 0) (P B 0) s0) Q:=by
  have hbk:=hsm.bk
  unfold K7_2
  refine Qb (fa45_4) ?_
  refine Qb (fa31_0) ?_
  refine Qb (Qg (i:=21) a1.2 Zf rfl) ?_
  refine Qb (fa45_4) ?_
  refine Qb (fa31_1) ?_
  refine Qb (Qg (i:=22) a1.2 ag3 rfl) ?_
  refine Qb (fa45_4) ?_
  refine Qb (fa31_2) ?_
  refine Qb (Qg (i:=23) a1.2 ag3 rfl) ?_
  refine Qb (fa45_4) ?_
  refine Qb (fa31_4) ?_
  refine Qb (Xt (i:=25) a1.2 ag29 sz29 rfl) ?_
  refine Qb (dbl54r) ?_
  refine Qb (fa66_4) ?_
  obtain ⟨s3,hs3⟩:∃ s,s0.put B (.cells (LR x rj [.int .u64 x.els.seed,.int .i64 x.els.room,.int .i64 x.els.votes,.slice none 0 (.ex 0),.int .u64 x.els.lseed,.int .i64 x.els.most,lv] [r1,r2,r3,r4,r5] [u1,u2,u3] [p1,p2]) 66 true) = s:=⟨_,rfl⟩
  refine Yj (σ':=s3) (by rw [← hs3]; exact X1 gB rfl sz54 rfl rfl) ?_
  have gB3:=congrArg (fun s=>St.get s B) hs3
  rw [St.get_put,if_pos rfl] at gB3
  have e3:GrX B s0 s3:=by rw [← hs3]; exact (GrX.refl _).put _
  have n3:s3.next = s0.next:=by rw [← hs3,St.next_put]
  have es3:=grx_gr e0 e3 hB
  have a3:=a1.extx e3 (by omega)
  clear hs3 gB a1
  unfold K7_3
  refine Qb (fa45_4) ?_
  refine Qb (fa31_3) ?_
  refine Qb (Qg (i:=24) a3.2 ag26 rfl) ?_
  refine Qb (Qp un26 (rb.ext es3)) ?_
  unfold K7_50
  refine Yb (L:=fun f' j s=>L7_51 M call f' (P b1 0) (P b2 0) (P B 0) (.one bv) (I (x.els.buckets.length:Nat)) (I (j:Nat)) s) (n:=x.els.buckets.length)
    (fun j s=>GrX B s3 s∧∃ cv,s.get B = some (.cells (LR x rj [.int .u64 x.els.seed,.int .i64 x.els.room,.int .i64 x.els.votes,cv,.int .u64 x.els.lseed,.int .i64 x.els.most,lv] [r1,r2,r3,r4,r5] [u1,u2,u3] [p1,p2]) 66 true)∧Bld σ.next s3.next s 1 90 cv ((x.els.buckets.take j).map Bkt.d))
    (fun f' j s hj hi hkk=>?_) (fun f' s hi=>?_) 0 M s3 (by omega) (by unfold M; omega) ⟨GrX.refl _,_,gB3.symm,Bld.nil⟩
  · obtain ⟨ex,cv,gs,hb⟩:=hi
    have lx:=ex.1
    have hat:=fun i (hi:X5 cv i)=>hb.at hi
    have es:=grx_gr es3 ex hB
    rw [L7_51_succ]
    obtain ⟨y,hy⟩:=Q6 hj
    have hym:=List.mem_of_getElem? hy
    have hen:=hsm.en y hym
    obtain ⟨b4,k4,c4,i4,a4,r4',_⟩:=Yq un26 sz87 (rb.ext es) hy
    obtain ⟨yv,rfl,p4⟩:=bkt_cells r4'
    unfold L7_51_b
    refine Qb (Xi (by omega)) ?_
    unfold K7_52
    refine Xc (rfl) ?_
    unfold K7_53
    refine Qb (i4 _) ?_
    refine Qb (Q7 a4.2 ag87 sz87 rfl) ?_
    refine y_cpy ne87 sz87 rfl rfl fun s4 b5 e4 a5 _=>?_
    unfold K7_55
    refine Qb (fa87_1) ?_
    refine Qb (Qg a5.2 ag3 rfl) ?_
    refine Qb (dbl90) ?_
    refine y_cpyg ne90 sz90 rfl rfl fun s5 b6 e5 g6 hb6 n6=>?_
    have a5':=a5.ext e5
    have e45:=e4.trans e5
    have l45:=e45.1
    have l4:=e4.1
    have p5:=p4.ext e45
    unfold K7_56
    refine Qb (fa87_0) ?_
    refine Qb (Qg a5'.2 ag85 rfl) ?_
    refine Qb (Qp un85 (p5)) ?_
    unfold K7_58
    have es5:=es.trans e45
    refine Yb (L:=fun f2 i s=>L7_59 M call (L7_51 M call f') f2 (P b1 0) (P b2 0) (P B 0) (P b6 0) (.one bv) (I (x.els.buckets.length:Nat)) (I (j:Nat)) (.one yv) (I (y.ents.length:Nat)) (I (i:Nat)) s) (n:=y.ents.length)
      (fun i s=>GrX b6 s5 s∧∃ cv2,s.get b6 = some (.cells [cv2,.int .i64 y.against] 90 true)∧Bld σ.next s5.next s 2 93 cv2 ((y.ents.take i).map Ent.d))
      (fun f2 i s6 hi2 hinv hk2=>?_) (fun f2 s6 hinv=>?_) 0 M s5 (by omega) (by unfold M; omega) ⟨GrX.refl _,_,g6,Bld.nil⟩
    · obtain ⟨ex2,cv2,gs2,hb2⟩:=hinv
      have lx2:=ex2.1
      have hat2:=fun i (hi:X5 cv2 i)=>hb2.at hi
      have es6:=grx_gr es5 ex2 (by have:=es.1; omega)
      rw [L7_59_succ]
      obtain ⟨z,hz⟩:=Q6 hi2
      have p6:Rep _ s6 yv _:=Rep.extx p5 ex2 fun i hi=>by have:=es.1; omega
      obtain ⟨b7,k7,c7,i7,a7,r7,_⟩:=Yq un85 sz92 p6 hz
      obtain rfl:=ent_cells r7
      unfold L7_59_b
      refine Qb (Xi (by omega)) ?_
      unfold K7_60
      refine Xc (rfl) ?_
      unfold K7_61
      refine Qb (i7 _) ?_
      refine Qb (Q7 a7.2 ag92 sz92 rfl) ?_
      refine y_cpy ne92 sz92 rfl rfl fun s7 b8 e7 a8 _=>?_
      have l7:=e7.1
      have g67:=(e7.2 b6 (by omega)).trans gs2
      have a6:At s7 b6 0 _:=⟨by omega,Lies.of g67⟩
      refine Qb (fa90_0) ?_
      refine Qb (Qg a6.2 ag88 rfl) ?_
      refine Qb (Q7 a8.2 ag92 sz92 rfl) ?_
      have htl:=take_len (l:=y.ents) (j:=i)
      refine y_app un88 in93 (by kernel_rfl) (by kernel_rfl) (by decide) bs3_88 (hb2.ext e7) (by omega) (x:=z.d) ent_rep rfl (by rw [List.length_map]; omega) fun s9 cv9 hb9 n9 o9=>?_
      have g69:=(o9 b6 (by omega) (fun h=>by have:=hat2 _ h; omega)).trans g67
      refine Qb (fa90_0) ?_
      refine Yj (X1 g69 rfl sz88 rfl rfl) ?_
      unfold K7_62
      refine Qb (Xy (by omega)) ?_
      refine hk2 _ ⟨⟨by rw [St.next_put]; omega,fun i hi hn=>by rw [St.get_put,if_neg hn,o9 i (by omega) (fun h=>by have:=hat2 _ h; omega),e7.2 i (by omega)]; exact ex2.2 i hi hn⟩,cv9,by rw [St.get_put,if_pos rfl],?_⟩
      rw [take_one Ent.d hz]
      exact hb9.to (by rw [St.next_put]; exact Nat.le_refl _) fun i hi hlt=>by rw [St.get_put,if_neg (by have:=es.1; omega)]
    · obtain ⟨ex2,cv2,gs2,hb2⟩:=hinv
      have lx2:=ex2.1
      rw [L7_59_succ]
      unfold L7_59_b
      refine Qb (Q4 (by omega)) ?_
      unfold K7_60
      refine Qx (rfl) ?_
      rw [List.take_length] at hb2
      have hlb:=es.1
      have gB6:s6.get B = _:=(ex2.2 B (by omega) (by omega)).trans ((e45.2 B (by omega)).trans gs)
      have aB:At s6 B 0 _:=⟨by omega,Lies.of gB6⟩
      have a6:At s6 b6 0 _:=⟨by omega,Lies.of gs2⟩
      unfold W5
      refine Qb (fa66_4) ?_
      refine Qb (fa54_3) ?_
      refine Qb (Qg (i:=24) aB.2 ag51 rfl) ?_
      refine Qb (Q7 a6.2 ag90 sz90 rfl) ?_
      have r2:=hb2.rep (ok:=fun i=>(i < σ.next ∨ s3.next≤i)∧¬ X5 cv i) fun i hi=>⟨by omega,fun h=>by have:=hat _ h; have:=es3.1; omega⟩
      have hbs:Bld σ.next s3.next s6 1 90 cv ((x.els.buckets.take j).map Bkt.d):=hb.to (by omega) fun i hi hlt=>by rw [ex2.2 i (by omega) (by omega),e45.2 i hlt]
      have htl:=take_len (l:=x.els.buckets) (j:=j)
      refine y_app un51 in90 (by kernel_rfl) (by kernel_rfl) (by decide) bs2_51 hbs (by omega) (x:=y.d) (.cons r2 (.cons (.flat rfl) .nil)) rfl (by rw [List.length_map]; omega) fun s9 cv9 hb9 n9 o9=>?_
      have gB9:=(o9 B (by omega) (fun h=>by have:=hat _ h; omega)).trans gB6
      refine Qb (fa66_4) ?_
      refine Qb (fa54_3) ?_
      refine Yj (X1 gB9 rfl sz51 rfl rfl) ?_
      unfold Zd
      refine Qb (Xy (by omega)) ?_
      refine hkk _ ⟨⟨by rw [St.next_put]; omega,fun i hi hn=>by rw [St.get_put,if_neg hn,o9 i (by omega) (fun h=>by have:=hat _ h; omega),ex2.2 i (by omega) (by omega),e45.2 i (by omega)]; exact ex.2 i hi hn⟩,cv9,by rw [St.get_put,if_pos rfl]; rfl,?_⟩
      rw [take_one Bkt.d hy]
      exact hb9.to (by rw [St.next_put]; exact Nat.le_refl _) fun i hi hlt=>by rw [St.get_put,if_neg (by omega)]
  · obtain ⟨ex,cv,gs,hb⟩:=hi
    rw [L7_51_succ]
    unfold L7_51_b
    refine Qb (Q4 (by omega)) ?_
    unfold K7_52
    refine Qx (rfl) ?_
    rw [List.take_length] at hb
    exact hk s cv (e3.trans ex) gs (hb.rep fun i hi=>by omega)
end
end Core
end Go.Proofs.YtjfgdcegpgoobaaGreatDoor
namespace Go.Proofs.YtjfgdcegpgoobaaGreatDoor
open Go.Run Go
namespace Core
open Ty
set_option maxRecDepth 1000000
section
variable {call:Qd} {σ s0:St} {x:Bnk} {b1 b2 B:Nat} {rj bv lv fv rr uv sv:CV} {Q:AV→St→Prop}
theorem ref_rad (hsm:Sml x) (e0:Gr σ s0) (hB:σ.next≤B) (hB2:B < s0.next) (hb1:b1 < B)
    (a1:At s0 b1 0 (x.cfg.cells ++ [.int .i64 x.packets,.int .i64 x.bytes,rj,.int .u64 x.els.seed,.int .i64 x.els.room,.int .i64 x.els.votes,bv,.int .u64 x.els.lseed,.int .i64 x.els.most,lv,.int .u64 x.rad.seed,.int .u64 x.rad.fseed,.int .i64 x.rad.hashes,fv,rr,.int .u64 x.unv.seed,.int .i64 x.unv.room,uv,.int .u64 x.spr.seed,sv]))
    {w1 w2 w3 w4 w5 w6 w7 u1 u2 u3 p1 p2:CV}
    (gB:s0.get B = some (.cells (LR x rj [w1,w2,w3,w4,w5,w6,w7] [.int .u64 0,.int .u64 0,.int .i64 0,.slice none 0 (.ex 0),.slice none 0 (.ex 0)] [u1,u2,u3] [p1,p2]) 66 true))
    (rb:Rep (fun i=>i < σ.next) σ rr (.sl 1 (x.rad.rows.map fun r=>[.sl 4 (r.map Cel.d)])))
    (hk:∀ s' cv,GrX B s0 s'→s'.get B = some (.cells (LR x rj [w1,w2,w3,w4,w5,w6,w7] [.int .u64 x.rad.seed,.int .u64 x.rad.fseed,.int .i64 x.rad.hashes,fv,cv] [u1,u2,u3] [p1,p2]) 66 true)→Rep (fun i=>i < σ.next ∨ s0.next≤i) s' cv (.sl 1 (x.rad.rows.map fun r=>[.sl 4 (r.map Cel.d)]))→Yl (Zm M call (P b1 0) (P b2 0) (P B 0) s') Q) :
    Yl (Zn M call (P b1 0) (P b2 0) (P B 0) s0) Q:=by
  have hbk:=hsm.rrows
  unfold Zn
  refine Qb (fa45_5) ?_
  refine Qb (fa37_0) ?_
  refine Qb (Qg (i:=28) a1.2 Zf rfl) ?_
  refine Qb (fa45_5) ?_
  refine Qb (fa37_1) ?_
  refine Qb (Xt (i:=29) a1.2 ag34 sz34 rfl) ?_
  refine Qb (dbl58) ?_
  refine Qb (fa66_5) ?_
  obtain ⟨s3,hs3⟩:∃ s,s0.put B (.cells (LR x rj [w1,w2,w3,w4,w5,w6,w7] [.int .u64 x.rad.seed,.int .u64 x.rad.fseed,.int .i64 x.rad.hashes,fv,.slice none 0 (.ex 0)] [u1,u2,u3] [p1,p2]) 66 true) = s:=⟨_,rfl⟩
  refine Yj (σ':=s3) (by rw [← hs3]; exact X1 gB rfl sz58 rfl rfl) ?_
  have gB3:=congrArg (fun s=>St.get s B) hs3
  rw [St.get_put,if_pos rfl] at gB3
  have e3:GrX B s0 s3:=by rw [← hs3]; exact (GrX.refl _).put _
  have n3:s3.next = s0.next:=by rw [← hs3,St.next_put]
  have es3:=grx_gr e0 e3 hB
  have a3:=a1.extx e3 (by omega)
  clear hs3 gB a1
  unfold K7_5
  refine Qb (fa45_5) ?_
  refine Qb (fa37_2) ?_
  refine Qb (Qg (i:=32) a3.2 ag35 rfl) ?_
  refine Qb (Qp un35 (rb.ext es3)) ?_
  unfold K7_37
  refine Yb (L:=fun f' j s=>L7_38 M call f' (P b1 0) (P b2 0) (P B 0) (.one rr) (I (x.rad.rows.length:Nat)) (I (j:Nat)) s) (n:=x.rad.rows.length)
    (fun j s=>GrX B s3 s∧∃ cv,s.get B = some (.cells (LR x rj [w1,w2,w3,w4,w5,w6,w7] [.int .u64 x.rad.seed,.int .u64 x.rad.fseed,.int .i64 x.rad.hashes,fv,cv] [u1,u2,u3] [p1,p2]) 66 true)∧Bld σ.next s3.next s 0 95 cv ((x.rad.rows.take j).map fun r=>[.sl 4 (r.map Cel.d)]))
    (fun f' j s hj hi hkk=>?_) (fun f' s hi=>?_) 0 M s3 (by omega) (by unfold M; omega) ⟨GrX.refl _,_,gB3.symm,Bld.nil⟩
  · obtain ⟨ex,cv,gs,hb⟩:=hi
    have lx:=ex.1
    have hat:=fun i (hi:X5 cv i)=>hb.at hi
    have es:=grx_gr es3 ex hB
    have hlb:=es.1
    have hlb3:=es3.1
    rw [L7_38_succ]
    obtain ⟨y,hy⟩:=Q6 hj
    have hym:=List.mem_of_getElem? hy
    have hen:=hbk.2 y hym
    obtain ⟨b4,k4,yv,i4,a4,p4,_⟩:=Xg un35 sz94 (rb.ext es) hy
    unfold L7_38_b
    refine Qb (Xi (by omega)) ?_
    unfold K7_39
    refine Xc (rfl) ?_
    unfold K7_40
    refine Qb (i4 _) ?_
    refine Qb (Q8 a4.2 ag94 rfl) ?_
    unfold K7_42
    unfold K7_43
    refine Qb (Qp un94 (p4)) ?_
    unfold K7_45
    refine y_fora (L:=fun f2 i cv s=>L7_46 M call (L7_38 M call f') f2 (P b1 0) (P b2 0) (P B 0) (.one cv) (.one rr) (I (x.rad.rows.length:Nat)) (I (j:Nat)) (.one yv) (I (y.length:Nat)) (I (i:Nat)) s) (n:=y.length)
      (fun i cv2 s'=>Gr s s'∧Bld σ.next s.next s' 3 98 cv2 ((y.take i).map Cel.d))
      (fun f2 i cv2 s6 hi2 hinv hk2=>?_) (fun f2 cv2 s6 hinv=>?_) 0 M (.slice none 0 (.ex 0)) s (by omega) (by unfold M; omega) ⟨Gr.refl _,Bld.nil⟩
    · obtain ⟨ex2,hb2⟩:=hinv
      have lx2:=ex2.1
      have hat2:=fun i (hi:X5 cv2 i)=>hb2.at hi
      rw [L7_46_succ]
      obtain ⟨z,hz⟩:=Q6 hi2
      obtain ⟨b7,k7,c7,i7,a7,r7,_⟩:=Yq un94 sz97 (p4.ext ex2) hz
      obtain rfl:=cel_cells r7
      unfold L7_46_b
      refine Qb (Xi (by omega)) ?_
      unfold K7_47
      refine Xc (rfl) ?_
      unfold K7_48
      refine Qb (i7 _) ?_
      refine Qb (Q7 a7.2 ag97 sz97 rfl) ?_
      refine y_cpy ne97 sz97 rfl rfl fun s7 b8 e7 a8 _=>?_
      have l7:=e7.1
      refine Qb (Q7 a8.2 ag97 sz97 rfl) ?_
      have htl:=take_len (l:=y) (j:=i)
      refine y_app un95 in98 (by kernel_rfl) (by kernel_rfl) (by decide) bs4_95 (hb2.ext e7) (by omega) (x:=z.d) cel_rep rfl (by rw [List.length_map]; omega) fun s9 cv9 hb9 n9 o9=>?_
      unfold K7_49
      refine Qb (Xy (by omega)) ?_
      refine hk2 cv9 s9 ⟨⟨by omega,fun i hi=>by rw [o9 i (by omega) (fun h=>by have:=hat2 _ h; omega),e7.2 i (by omega)]; exact ex2.2 i hi⟩,?_⟩
      rw [take_one Cel.d hz]
      exact hb9
    · obtain ⟨ex2,hb2⟩:=hinv
      have lx2:=ex2.1
      rw [L7_46_succ]
      unfold L7_46_b
      refine Qb (Q4 (by omega)) ?_
      unfold K7_47
      refine Qx (rfl) ?_
      rw [List.take_length] at hb2
      have gB6:=(ex2.2 B (by omega)).trans gs
      have aB:At s6 B 0 _:=⟨by omega,Lies.of gB6⟩
      unfold W4
      refine Qb (fa66_5) ?_
      refine Qb (Nh) ?_
      refine Qb (Qg (i:=32) aB.2 ag56 rfl) ?_
      have r2:=hb2.rep (ok:=fun i=>(i < σ.next ∨ s3.next≤i)∧¬ X5 cv i) fun i hi=>⟨by omega,fun h=>by have:=hat _ h; omega⟩
      have htl:=take_len (l:=x.rad.rows) (j:=j)
      refine y_app un56 in95 (by kernel_rfl) (by kernel_rfl) (by decide) bs1_56 (hb.ext ex2) (by omega) (x:=[.sl 4 (y.map Cel.d)]) (.cons r2 .nil) rfl (by rw [List.length_map]; omega) fun s9 cv9 hb9 n9 o9=>?_
      have gB9:=(o9 B (by omega) (fun h=>by have:=hat _ h; omega)).trans gB6
      refine Qb (fa66_5) ?_
      refine Qb (Nh) ?_
      refine Yj (X1 gB9 rfl sz56 rfl rfl) ?_
      unfold Zc
      refine Qb (Xy (by omega)) ?_
      refine hkk _ ⟨⟨by rw [St.next_put]; omega,fun i hi hn=>by rw [St.get_put,if_neg hn,o9 i (by omega) (fun h=>by have:=hat _ h; omega),ex2.2 i (by omega)]; exact ex.2 i hi hn⟩,cv9,by rw [St.get_put,if_pos rfl]; rfl,?_⟩
      rw [take_one (fun r=>[DV.sl 4 (r.map Cel.d)]) hy]
      exact hb9.to (by rw [St.next_put]; exact Nat.le_refl _) fun i hi hlt=>by rw [St.get_put,if_neg (by omega)]
  · obtain ⟨ex,cv,gs,hb⟩:=hi
    rw [L7_38_succ]
    unfold L7_38_b
    refine Qb (Q4 (by omega)) ?_
    unfold K7_39
    refine Qx (rfl) ?_
    rw [List.take_length] at hb
    exact hk s cv (e3.trans ex) gs (hb.rep fun i hi=>by omega)
end
end Core
end Go.Proofs.YtjfgdcegpgoobaaGreatDoor
namespace Go.Proofs.YtjfgdcegpgoobaaGreatDoor
open Go.Run Go
namespace Core
open Ty
set_option maxRecDepth 1000000
section
variable {call:Qd} {σ s0:St} {x:Bnk} {b1 b2 B:Nat} {rj bv lv fv rr uv sv:CV} {Q:AV→St→Prop}
theorem ref_unv (hsm:Sml x) (e0:Gr σ s0) (hB:σ.next≤B) (hB2:B < s0.next) (hb1:b1 < B)
    (a1:At s0 b1 0 (x.cfg.cells ++ [.int .i64 x.packets,.int .i64 x.bytes,rj,.int .u64 x.els.seed,.int .i64 x.els.room,.int .i64 x.els.votes,bv,.int .u64 x.els.lseed,.int .i64 x.els.most,lv,.int .u64 x.rad.seed,.int .u64 x.rad.fseed,.int .i64 x.rad.hashes,fv,rr,.int .u64 x.unv.seed,.int .i64 x.unv.room,uv,.int .u64 x.spr.seed,sv]))
    {w1 w2 w3 w4 w5 w6 w7 r1 r2 r3 r4 r5 p1 p2:CV}
    (gB:s0.get B = some (.cells (LR x rj [w1,w2,w3,w4,w5,w6,w7] [r1,r2,r3,r4,r5] [.int .u64 0,.int .i64 0,.slice none 0 (.ex 0)] [p1,p2]) 66 true))
    (rb:Rep (fun i=>i < σ.next) σ uv (.sl 3 (x.unv.levels.map Lvl.d)))
    (hk:∀ s' cv,GrX B s0 s'→s'.get B = some (.cells (LR x rj [w1,w2,w3,w4,w5,w6,w7] [r1,r2,r3,r4,r5] [.int .u64 x.unv.seed,.int .i64 x.unv.room,cv] [p1,p2]) 66 true)→Rep (fun i=>i < σ.next ∨ s0.next≤i) s' cv (.sl 3 (x.unv.levels.map Lvl.d))→Yl (Zl M call (P b1 0) (P b2 0) (P B 0) s') Q) :
    Yl (Zm M call (P b1 0) (P b2 0) (P B 0) s0) Q:=by
  have hbk:=hsm.lev
  unfold Zm
  refine Qb (fa45_6) ?_
  refine Qb (fa40_0) ?_
  refine Qb (Qg (i:=33) a1.2 Zf rfl) ?_
  refine Qb (fa45_6) ?_
  refine Qb (fa40_1) ?_
  refine Qb (Qg (i:=34) a1.2 ag3 rfl) ?_
  refine Qb (dbl61) ?_
  refine Qb (fa66_6) ?_
  obtain ⟨s3,hs3⟩:∃ s,s0.put B (.cells (LR x rj [w1,w2,w3,w4,w5,w6,w7] [r1,r2,r3,r4,r5] [.int .u64 x.unv.seed,.int .i64 x.unv.room,.slice none 0 (.ex 0)] [p1,p2]) 66 true) = s:=⟨_,rfl⟩
  refine Yj (σ':=s3) (by rw [← hs3]; exact X1 gB rfl sz61 rfl rfl) ?_
  have gB3:=congrArg (fun s=>St.get s B) hs3
  rw [St.get_put,if_pos rfl] at gB3
  have e3:GrX B s0 s3:=by rw [← hs3]; exact (GrX.refl _).put _
  have n3:s3.next = s0.next:=by rw [← hs3,St.next_put]
  have es3:=grx_gr e0 e3 hB
  have a3:=a1.extx e3 (by omega)
  clear hs3 gB a1
  unfold K7_7
  refine Qb (fa45_6) ?_
  refine Qb (fa40_2) ?_
  refine Qb (Qg (i:=35) a3.2 ag38 rfl) ?_
  refine Qb (Qp un38 (rb.ext es3)) ?_
  unfold K7_24
  refine Yb (L:=fun f' j s=>L7_25 M call f' (P b1 0) (P b2 0) (P B 0) (.one uv) (I (x.unv.levels.length:Nat)) (I (j:Nat)) s) (n:=x.unv.levels.length)
    (fun j s=>GrX B s3 s∧∃ cv,s.get B = some (.cells (LR x rj [w1,w2,w3,w4,w5,w6,w7] [r1,r2,r3,r4,r5] [.int .u64 x.unv.seed,.int .i64 x.unv.room,cv] [p1,p2]) 66 true)∧Bld σ.next s3.next s 2 107 cv ((x.unv.levels.take j).map Lvl.d))
    (fun f' j s hj hi hkk=>?_) (fun f' s hi=>?_) 0 M s3 (by omega) (by unfold M; omega) ⟨GrX.refl _,_,gB3.symm,Bld.nil⟩
  · obtain ⟨ex,cv,gs,hb⟩:=hi
    have lx:=ex.1
    have hat:=fun i (hi:X5 cv i)=>hb.at hi
    have es:=grx_gr es3 ex hB
    have hlb:=es.1
    have hlb3:=es3.1
    rw [L7_25_succ]
    obtain ⟨y,hy⟩:=Q6 hj
    have hym:=List.mem_of_getElem? hy
    have hen:=(hsm.each y hym).2
    obtain ⟨b4,k4,c4,i4,a4,r4',_⟩:=Yq un38 sz103 (rb.ext es) hy
    obtain ⟨yv,tv,rfl,q4,p4⟩:=lvl_cells r4'
    unfold L7_25_b
    refine Qb (Xi (by omega)) ?_
    unfold K7_26
    refine Xc (rfl) ?_
    unfold K7_27
    refine Qb (i4 _) ?_
    refine Qb (Q7 a4.2 ag103 sz103 rfl) ?_
    refine y_cpy ne103 sz103 rfl rfl fun s4 b5 e4 a5 _=>?_
    unfold K7_29
    refine Qb (fa103_0) ?_
    refine Qb (Xt a5.2 ag100 sz100 rfl) ?_
    refine Qb (dbl107) ?_
    refine y_cpyg ne107 sz107 rfl rfl fun s5 b6 e5 g6 hb6 n6=>?_
    have a5':=a5.ext e5
    have e45:=e4.trans e5
    have l45:=e45.1
    have l4:=e4.1
    have p5:=p4.ext e45
    have q5:=q4.ext e45
    unfold K7_30
    refine Qb (fa103_1) ?_
    refine Qb (Qg a5'.2 ag101 rfl) ?_
    refine Qb (Qp un101 (p5)) ?_
    unfold K7_32
    have es5:=es.trans e45
    refine Yb (L:=fun f2 i s=>L7_33 M call (L7_25 M call f') f2 (P b1 0) (P b2 0) (P B 0) (P b6 0) (.one uv) (I (x.unv.levels.length:Nat)) (I (j:Nat)) (.one tv) (I (y.top.length:Nat)) (I (i:Nat)) s) (n:=y.top.length)
      (fun i s=>GrX b6 s5 s∧∃ cv2,s.get b6 = some (.cells [.int .u64 y.seed,yv,cv2] 107 true)∧Bld σ.next s5.next s 1 110 cv2 ((y.top.take i).map Itm.d))
      (fun f2 i s6 hi2 hinv hk2=>?_) (fun f2 s6 hinv=>?_) 0 M s5 (by omega) (by unfold M; omega) ⟨GrX.refl _,_,g6,Bld.nil⟩
    · obtain ⟨ex2,cv2,gs2,hb2⟩:=hinv
      have lx2:=ex2.1
      have hat2:=fun i (hi:X5 cv2 i)=>hb2.at hi
      rw [L7_33_succ]
      obtain ⟨z,hz⟩:=Q6 hi2
      have p6:Rep _ s6 tv _:=Rep.extx p5 ex2 fun i hi=>by omega
      obtain ⟨b7,k7,c7,i7,a7,r7,_⟩:=Yq un101 sz109 p6 hz
      obtain rfl:=itm_cells r7
      unfold L7_33_b
      refine Qb (Xi (by omega)) ?_
      unfold K7_34
      refine Xc (rfl) ?_
      unfold K7_35
      refine Qb (i7 _) ?_
      refine Qb (Q7 a7.2 ag109 sz109 rfl) ?_
      refine y_cpy ne109 sz109 rfl rfl fun s7 b8 e7 a8 _=>?_
      have l7:=e7.1
      have g67:=(e7.2 b6 (by omega)).trans gs2
      have a6:At s7 b6 0 _:=⟨by omega,Lies.of g67⟩
      refine Qb (fa107_1) ?_
      refine Qb (Qg a6.2 ag105 rfl) ?_
      refine Qb (Q7 a8.2 ag109 sz109 rfl) ?_
      have htl:=take_len (l:=y.top) (j:=i)
      refine y_app un105 in110 (by kernel_rfl) (by kernel_rfl) (by decide) bs2_105 (hb2.ext e7) (by omega) (x:=z.d) itm_rep rfl (by rw [List.length_map]; omega) fun s9 cv9 hb9 n9 o9=>?_
      have g69:=(o9 b6 (by omega) (fun h=>by have:=hat2 _ h; omega)).trans g67
      refine Qb (fa107_1) ?_
      refine Yj (X1 g69 rfl sz105 rfl rfl) ?_
      unfold K7_36
      refine Qb (Xy (by omega)) ?_
      refine hk2 _ ⟨⟨by rw [St.next_put]; omega,fun i hi hn=>by rw [St.get_put,if_neg hn,o9 i (by omega) (fun h=>by have:=hat2 _ h; omega),e7.2 i (by omega)]; exact ex2.2 i hi hn⟩,cv9,by rw [St.get_put,if_pos rfl],?_⟩
      rw [take_one Itm.d hz]
      exact hb9.to (by rw [St.next_put]; exact Nat.le_refl _) fun i hi hlt=>by rw [St.get_put,if_neg (by omega)]
    · obtain ⟨ex2,cv2,gs2,hb2⟩:=hinv
      have lx2:=ex2.1
      rw [L7_33_succ]
      unfold L7_33_b
      refine Qb (Q4 (by omega)) ?_
      unfold K7_34
      refine Qx (rfl) ?_
      rw [List.take_length] at hb2
      have gB6:=(ex2.2 B (by omega) (by omega)).trans ((e45.2 B (by omega)).trans gs)
      have aB:At s6 B 0 _:=⟨by omega,Lies.of gB6⟩
      have a6:At s6 b6 0 _:=⟨by omega,Lies.of gs2⟩
      unfold W3
      refine Qb (fa66_6) ?_
      refine Qb (fa61_2) ?_
      refine Qb (Qg (i:=35) aB.2 ag59 rfl) ?_
      refine Qb (Q7 a6.2 ag107 sz107 rfl) ?_
      have r2:=hb2.rep (ok:=fun i=>(i < σ.next ∨ s3.next≤i)∧¬ X5 cv i) fun i hi=>⟨by omega,fun h=>by have:=hat _ h; omega⟩
      have q6:Rep (fun i=>(i < σ.next ∨ s3.next≤i)∧¬ X5 cv i) s6 yv (V1 y.rows):=q5.to fun i hi hlt=>⟨ex2.2 i hlt (by omega),by omega,by omega,fun h=>by have:=hat _ h; omega⟩
      have hbs:Bld σ.next s3.next s6 2 107 cv ((x.unv.levels.take j).map Lvl.d):=hb.to (by omega) fun i hi hlt=>by rw [ex2.2 i (by omega) (by omega),e45.2 i hlt]
      have htl:=take_len (l:=x.unv.levels) (j:=j)
      refine y_app un59 in107 (by kernel_rfl) (by kernel_rfl) (by decide) bs3_59 hbs (by omega) (x:=y.d) (.cons (.flat rfl) (.cons q6 (.cons r2 .nil))) rfl (by rw [List.length_map]; omega) fun s9 cv9 hb9 n9 o9=>?_
      have gB9:=(o9 B (by omega) (fun h=>by have:=hat _ h; omega)).trans gB6
      refine Qb (fa66_6) ?_
      refine Qb (fa61_2) ?_
      refine Yj (X1 gB9 rfl sz59 rfl rfl) ?_
      unfold Zb
      refine Qb (Xy (by omega)) ?_
      refine hkk _ ⟨⟨by rw [St.next_put]; omega,fun i hi hn=>by rw [St.get_put,if_neg hn,o9 i (by omega) (fun h=>by have:=hat _ h; omega),ex2.2 i (by omega) (by omega),e45.2 i (by omega)]; exact ex.2 i hi hn⟩,cv9,by rw [St.get_put,if_pos rfl]; rfl,?_⟩
      rw [take_one Lvl.d hy]
      exact hb9.to (by rw [St.next_put]; exact Nat.le_refl _) fun i hi hlt=>by rw [St.get_put,if_neg (by omega)]
  · obtain ⟨ex,cv,gs,hb⟩:=hi
    rw [L7_25_succ]
    unfold L7_25_b
    refine Qb (Q4 (by omega)) ?_
    unfold K7_26
    refine Qx (rfl) ?_
    rw [List.take_length] at hb
    exact hk s cv (e3.trans ex) gs (hb.rep fun i hi=>by omega)
end
end Core
end Go.Proofs.YtjfgdcegpgoobaaGreatDoor
namespace Go.Proofs.YtjfgdcegpgoobaaGreatDoor
open Go.Run Go
namespace Core
open Ty
set_option maxRecDepth 1000000
section
variable {call:Qd} {σ s0:St} {x:Bnk} {b1 b2 B:Nat} {rj bv lv fv rr uv sv:CV} {Q:AV→St→Prop}
theorem ref_spr (hsm:Sml x) (e0:Gr σ s0) (hB:σ.next≤B) (hB2:B < s0.next) (hb1:b1 < B)
    (a1:At s0 b1 0 (x.cfg.cells ++ [.int .i64 x.packets,.int .i64 x.bytes,rj,.int .u64 x.els.seed,.int .i64 x.els.room,.int .i64 x.els.votes,bv,.int .u64 x.els.lseed,.int .i64 x.els.most,lv,.int .u64 x.rad.seed,.int .u64 x.rad.fseed,.int .i64 x.rad.hashes,fv,rr,.int .u64 x.unv.seed,.int .i64 x.unv.room,uv,.int .u64 x.spr.seed,sv]))
    {w1 w2 w3 w4 w5 w6 w7 r1 r2 r3 r4 r5 u1 u2 u3:CV}
    (gB:s0.get B = some (.cells (LR x rj [w1,w2,w3,w4,w5,w6,w7] [r1,r2,r3,r4,r5] [u1,u2,u3] [.int .u64 0,.slice none 0 (.ex 0)]) 66 true))
    (rb:Rep (fun i=>i < σ.next) σ sv (.sl 1 (x.spr.rows.map fun r=>[.sl 4 (r.map Spb.d)])))
    (hk:∀ s' cv,GrX B s0 s'→s'.get B = some (.cells (LR x rj [w1,w2,w3,w4,w5,w6,w7] [r1,r2,r3,r4,r5] [u1,u2,u3] [.int .u64 x.spr.seed,cv]) 66 true)→Rep (fun i=>i < σ.next ∨ s0.next≤i) s' cv (.sl 1 (x.spr.rows.map fun r=>[.sl 4 (r.map Spb.d)]))→Yl (X3 M call (P b2 0) (P B 0) s') Q) :
    Yl (Zl M call (P b1 0) (P b2 0) (P B 0) s0) Q:=by
  have hbk:=hsm.srows
  unfold Zl
  refine Qb (fa45_7) ?_
  refine Qb (fa43_0) ?_
  refine Qb (Qg (i:=36) a1.2 Zf rfl) ?_
  refine Qb (dbl64) ?_
  refine Qb (fa66_7) ?_
  obtain ⟨s3,hs3⟩:∃ s,s0.put B (.cells (LR x rj [w1,w2,w3,w4,w5,w6,w7] [r1,r2,r3,r4,r5] [u1,u2,u3] [.int .u64 x.spr.seed,.slice none 0 (.ex 0)]) 66 true) = s:=⟨_,rfl⟩
  refine Yj (σ':=s3) (by rw [← hs3]; exact X1 gB rfl sz64 rfl rfl) ?_
  have gB3:=congrArg (fun s=>St.get s B) hs3
  rw [St.get_put,if_pos rfl] at gB3
  have e3:GrX B s0 s3:=by rw [← hs3]; exact (GrX.refl _).put _
  have n3:s3.next = s0.next:=by rw [← hs3,St.next_put]
  have es3:=grx_gr e0 e3 hB
  have a3:=a1.extx e3 (by omega)
  clear hs3 gB a1
  unfold K7_9
  refine Qb (fa45_7) ?_
  refine Qb (Ws) ?_
  refine Qb (Qg (i:=37) a3.2 ag41 rfl) ?_
  refine Qb (Qp un41 (rb.ext es3)) ?_
  unfold K7_11
  refine Yb (L:=fun f' j s=>L7_12 M call f' (P b2 0) (P B 0) (.one sv) (I (x.spr.rows.length:Nat)) (I (j:Nat)) s) (n:=x.spr.rows.length)
    (fun j s=>GrX B s3 s∧∃ cv,s.get B = some (.cells (LR x rj [w1,w2,w3,w4,w5,w6,w7] [r1,r2,r3,r4,r5] [u1,u2,u3] [.int .u64 x.spr.seed,cv]) 66 true)∧Bld σ.next s3.next s 0 112 cv ((x.spr.rows.take j).map fun r=>[.sl 4 (r.map Spb.d)]))
    (fun f' j s hj hi hkk=>?_) (fun f' s hi=>?_) 0 M s3 (by omega) (by unfold M; omega) ⟨GrX.refl _,_,gB3.symm,Bld.nil⟩
  · obtain ⟨ex,cv,gs,hb⟩:=hi
    have lx:=ex.1
    have hat:=fun i (hi:X5 cv i)=>hb.at hi
    have es:=grx_gr es3 ex hB
    have hlb:=es.1
    have hlb3:=es3.1
    rw [L7_12_succ]
    obtain ⟨y,hy⟩:=Q6 hj
    have hym:=List.mem_of_getElem? hy
    have hen:=hbk.2 y hym
    obtain ⟨b4,k4,yv,i4,a4,p4,_⟩:=Xg un41 sz111 (rb.ext es) hy
    unfold L7_12_b
    refine Qb (Xi (by omega)) ?_
    unfold K7_13
    refine Xc (rfl) ?_
    unfold K7_14
    refine Qb (i4 _) ?_
    refine Qb (Q8 a4.2 ag111 rfl) ?_
    unfold K7_16
    unfold K7_17
    refine Qb (Qp un111 (p4)) ?_
    unfold K7_19
    refine y_fora (L:=fun f2 i cv s=>L7_20 M call (L7_12 M call f') f2 (P b2 0) (P B 0) (.one cv) (.one sv) (I (x.spr.rows.length:Nat)) (I (j:Nat)) (.one yv) (I (y.length:Nat)) (I (i:Nat)) s) (n:=y.length)
      (fun i cv2 s'=>Gr s s'∧Bld σ.next s.next s' 3 120 cv2 ((y.take i).map Spb.d))
      (fun f2 i cv2 s6 hi2 hinv hk2=>?_) (fun f2 cv2 s6 hinv=>?_) 0 M (.slice none 0 (.ex 0)) s (by omega) (by unfold M; omega) ⟨Gr.refl _,Bld.nil⟩
    · obtain ⟨ex2,hb2⟩:=hinv
      have lx2:=ex2.1
      have hat2:=fun i (hi:X5 cv2 i)=>hb2.at hi
      rw [L7_20_succ]
      obtain ⟨z,hz⟩:=Q6 hi2
      obtain ⟨b7,k7,c7,i7,a7,r7,_⟩:=Yq un111 sz117 (p4.ext ex2) hz
      obtain ⟨zv,rfl,q7⟩:=spb_cells r7
      unfold L7_20_b
      refine Qb (Xi (by omega)) ?_
      unfold K7_21
      refine Xc (rfl) ?_
      unfold K7_22
      refine Qb (i7 _) ?_
      refine Qb (Q7 a7.2 ag117 sz117 rfl) ?_
      refine y_cpy ne117 sz117 rfl rfl fun s7 b8 e7 a8 _=>?_
      have l7:=e7.1
      refine Qb (fa117_0) ?_
      refine Qb (Xt a8.2 ag115 sz115 rfl) ?_
      refine Qb (fa117_1) ?_
      refine Qb (Qg a8.2 ag9 rfl) ?_
      refine Qb (fa117_2) ?_
      refine Qb (Qg a8.2 ag3 rfl) ?_
      refine Qb (dbl120r) ?_
      have htl:=take_len (l:=y) (j:=i)
      have q8:Rep (fun i=>(i < σ.next ∨ s.next≤i)∧¬ X5 cv2 i) s7 zv (Jp z.rows):=(q7.ext e7).to fun i hi hlt=>⟨rfl,hlt,.inl hi,fun h=>by have:=hat2 _ h; omega⟩
      refine y_app un112 in120 (by kernel_rfl) (by kernel_rfl) (by decide) bs4_112 (hb2.ext e7) (by omega) (x:=z.d) (.cons (.flat rfl) (.cons q8 (.cons (.flat rfl) (.cons (.flat rfl) .nil)))) rfl (by rw [List.length_map]; omega) fun s9 cv9 hb9 n9 o9=>?_
      unfold K7_23
      refine Qb (Xy (by omega)) ?_
      refine hk2 cv9 s9 ⟨⟨by omega,fun i hi=>by rw [o9 i (by omega) (fun h=>by have:=hat2 _ h; omega),e7.2 i (by omega)]; exact ex2.2 i hi⟩,?_⟩
      rw [take_one Spb.d hz]
      exact hb9
    · obtain ⟨ex2,hb2⟩:=hinv
      have lx2:=ex2.1
      rw [L7_20_succ]
      unfold L7_20_b
      refine Qb (Q4 (by omega)) ?_
      unfold K7_21
      refine Qx (rfl) ?_
      rw [List.take_length] at hb2
      have gB6:=(ex2.2 B (by omega)).trans gs
      have aB:At s6 B 0 _:=⟨by omega,Lies.of gB6⟩
      unfold W2
      refine Qb (fa66_7) ?_
      refine Qb (Ni) ?_
      refine Qb (Qg (i:=37) aB.2 ag62 rfl) ?_
      have r2:=hb2.rep (ok:=fun i=>(i < σ.next ∨ s3.next≤i)∧¬ X5 cv i) fun i hi=>⟨by omega,fun h=>by have:=hat _ h; omega⟩
      have htl:=take_len (l:=x.spr.rows) (j:=j)
      refine y_app un62 in112 (by kernel_rfl) (by kernel_rfl) (by decide) bs1_62 (hb.ext ex2) (by omega) (x:=[.sl 4 (y.map Spb.d)]) (.cons r2 .nil) rfl (by rw [List.length_map]; omega) fun s9 cv9 hb9 n9 o9=>?_
      have gB9:=(o9 B (by omega) (fun h=>by have:=hat _ h; omega)).trans gB6
      refine Qb (fa66_7) ?_
      refine Qb (Ni) ?_
      refine Yj (X1 gB9 rfl sz62 rfl rfl) ?_
      unfold Za
      refine Qb (Xy (by omega)) ?_
      refine hkk _ ⟨⟨by rw [St.next_put]; omega,fun i hi hn=>by rw [St.get_put,if_neg hn,o9 i (by omega) (fun h=>by have:=hat _ h; omega),ex2.2 i (by omega)]; exact ex.2 i hi hn⟩,cv9,by rw [St.get_put,if_pos rfl]; rfl,?_⟩
      rw [take_one (fun r=>[DV.sl 4 (r.map Spb.d)]) hy]
      exact hb9.to (by rw [St.next_put]; exact Nat.le_refl _) fun i hi hlt=>by rw [St.get_put,if_neg (by omega)]
  · obtain ⟨ex,cv,gs,hb⟩:=hi
    rw [L7_12_succ]
    unfold L7_12_b
    refine Qb (Q4 (by omega)) ?_
    unfold K7_13
    refine Qx (rfl) ?_
    rw [List.take_length] at hb
    exact hk s cv (e3.trans ex) gs (hb.rep fun i hi=>by omega)
end
end Core
end Go.Proofs.YtjfgdcegpgoobaaGreatDoor
namespace Go.Proofs.YtjfgdcegpgoobaaGreatDoor
open Go.Run Go
namespace Core
open Ty
set_option maxRecDepth 1000000
section
variable {n:Nat} {σ:St} {tab:Tab} {ok:Nat→Prop}
theorem ref_run (ht:Fr tab) {ca:List CV} {x:Bnk} (ha:RepL ok σ ca x.d) (hsm:Sml x) :
    Yl (Ql (C M) tab (n + 1) 7 [.agg ca] σ) (fun v σ'=>Gr σ σ'∧∃ cs,v = .agg cs∧RepL (fun _=>True) σ' cs x.d):=by
  have ha:RepL (fun i=>i < σ.next) σ ca x.d:=ha.to fun i _ hi=>⟨rfl,hi,hi⟩
  obtain ⟨rj,bv,lv,fv,rr,uv,sv,rfl,rj1,rb,rl,rf,rq,ru,rs⟩:=Wb ha
  refine Q3 (ht _ rfl) Tryz.func7 (by kernel_rfl) ?_
  rw [F7_eq]
  unfold K7_0
  refine Yn fun s1 b1 e1 a1 _=>?_
  have q1:=e1.1
  have q2:=a1.1
  refine Ye (ne66) ?_
  generalize hs2:s1.push (.cells W0 66 true) = s2
  have e2:Gr s1 s2:=by rw [← hs2]; exact Gr.push _ _
  have n2:s2.next = s1.next + 1:=by rw [← hs2]; rfl
  have g2:s2.get s1.next = some (.cells W0 66 true):=by rw [← hs2,St.get_push,if_pos rfl]
  obtain ⟨b2,hb2⟩:∃ b,s1.next = b:=⟨_,rfl⟩
  rw [hb2] at g2 ⊢
  replace a1:=a1.ext e2
  unfold K7_1
  refine Qb (fa45_0) ?_
  refine Qb (Xt a1.2 ag24 sz24 rfl) ?_
  refine Qb (fa45_1) ?_
  refine Qb (Qg a1.2 ag3 rfl) ?_
  refine Qb (fa45_2) ?_
  refine Qb (Qg a1.2 ag3 rfl) ?_
  refine Qb (fa45_3) ?_
  refine Qb (Qg a1.2 Ng rfl) ?_
  refine Qb (dbl66r) ?_
  refine y_cpyg ne66 sz66 rfl rfl fun s3 B e3 gB hB n3=>?_
  replace a1:=a1.ext e3
  replace g2:=(e3.2 b2 (by omega)).trans g2
  have E:=(e1.trans e2).trans e3
  refine ref_els (σ:=σ) hsm E (by omega) (by omega) (by omega) a1 gB rb fun s4 c4 x4 g4 r4=>?_
  have l4:=x4.1
  refine ref_rad (σ:=σ) hsm (grx_gr E x4 (by omega)) (by omega) (by omega) (by omega) (a1.extx x4 (by omega)) g4 rq fun s5 c5 x5 g5 r5=>?_
  have x45:=x4.trans x5
  have l5:=x5.1
  refine ref_unv (σ:=σ) hsm (grx_gr E x45 (by omega)) (by omega) (by omega) (by omega) (a1.extx x45 (by omega)) g5 ru fun s6 c6 x6 g6 r6=>?_
  have x46:=x45.trans x6
  have l6:=x6.1
  refine ref_spr (σ:=σ) hsm (grx_gr E x46 (by omega)) (by omega) (by omega) (by omega) (a1.extx x46 (by omega)) g6 rs fun s7 c7 x7 g7 r7=>?_
  have x47:=x46.trans x7
  have l7:=x7.1
  have EE:=grx_gr E x47 (by omega)
  have aB:At s7 B 0 _:=⟨by omega,Lies.of g7⟩
  have g27:=(x47.2 b2 (by omega) (by omega)).trans g2
  unfold X3
  refine Qb (Q7 aB.2 ag66 sz66 rfl) ?_
  refine Yj (X1 g27 rfl sz66 rfl rfl) ?_
  have q3:=E.1
  refine y_ret1 (Y7 (by rw [St.get_put,if_pos rfl]) rfl ag66 sz66 rfl) ⟨⟨by rw [St.next_put]; omega,fun i hi=>by rw [St.get_put,if_neg (by omega)]; exact EE.2 i hi⟩,_,rfl,?_⟩
  have old:∀ {cv:CV} {d:DV},Rep (fun i=>i < σ.next) σ cv d→Rep (fun i=>i ≠ b2) s7 cv d:=fun h=>h.to fun i hi _=>⟨EE.2 i hi,by omega,by omega⟩
  have fin:RepL (fun i=>i ≠ b2) s7 (x.cfg.cells ++ [.int .i64 x.packets,.int .i64 x.bytes,rj] ++ [.int .u64 x.els.seed,.int .i64 x.els.room,.int .i64 x.els.votes,c4,.int .u64 x.els.lseed,.int .i64 x.els.most,lv] ++ [.int .u64 x.rad.seed,.int .u64 x.rad.fseed,.int .i64 x.rad.hashes,fv,c5] ++ [.int .u64 x.unv.seed,.int .i64 x.unv.room,c6] ++ [.int .u64 x.spr.seed,c7]) x.d:=by
    have r4':Rep (fun i=>i ≠ b2) s7 c4 _:=r4.to fun i hi hlt=>⟨(x5.trans (x6.trans x7)).2 i hlt (by rcases hi with hi | hi <;> omega),by omega,by omega⟩
    have r5':Rep (fun i=>i ≠ b2) s7 c5 _:=r5.to fun i hi hlt=>⟨(x6.trans x7).2 i hlt (by rcases hi with hi | hi <;> omega),by omega,by omega⟩
    have r6':Rep (fun i=>i ≠ b2) s7 c6 _:=r6.to fun i hi hlt=>⟨x7.2 i hlt (by rcases hi with hi | hi <;> omega),by omega,by omega⟩
    have r7':Rep (fun i=>i ≠ b2) s7 c7 _:=r7.to fun i hi hlt=>⟨rfl,hlt,by omega⟩
    unfold Bnk.d
    refine RepL.append (RepL.append (RepL.append (RepL.append (RepL.append (cfg_rep x.cfg) (.cons (.flat rfl) (.cons (.flat rfl) (.cons (old rj1) .nil)))) ?_) ?_) ?_) ?_
    · exact .cons (.flat rfl) (.cons (.flat rfl) (.cons (.flat rfl) (.cons r4' (.cons (.flat rfl) (.cons (.flat rfl) (.cons (old rl) .nil))))))
    · exact .cons (.flat rfl) (.cons (.flat rfl) (.cons (.flat rfl) (.cons (old rf) (.cons r5' .nil))))
    · exact .cons (.flat rfl) (.cons (.flat rfl) (.cons r6' .nil))
    · exact .cons (.flat rfl) (.cons r7' .nil)
  exact fin.to fun i hi hlt=>⟨by rw [St.get_put,if_neg hi],by rw [St.next_put]; exact hlt,trivial⟩
end
end Core
end Go.Proofs.YtjfgdcegpgoobaaGreatDoor
namespace Go.Proofs.YtjfgdcegpgoobaaGreatDoor
open Go.Run Go
namespace Core
open Ty
set_option maxRecDepth 1000000
def awSpec (args:List AV):Option AV:=match args with
  | []=>some (B true)
  | _=>none
noncomputable def TT:Tab:=noTab.add 8 (flatS awSpec)
theorem fr_TT:Fr TT:=fun f h=>by
  show (bif Nat.beq f 8 then some _ else noTab f) = none
  rw [h]; rfl
theorem aw_TT:TT 8 = some (flatS awSpec):=rfl
def zeroB:Bnk:=⟨zcfg,0,0,[],⟨0,0,0,[],0,0,[]⟩,⟨0,0,0,[],[]⟩,⟨0,0,[]⟩,⟨0,[]⟩⟩
theorem zero_rep {σ:St} {ok:Nat→Prop}:RepL ok σ W0 zeroB.d:=by
  unfold Bnk.d
  refine RepL.append (a:=zcfg.cells ++ [.int .i64 0,.int .i64 0,.slice none 0 (.ex 0)] ++ [.int .u64 0,.int .i64 0,.int .i64 0,.slice none 0 (.ex 0),.int .u64 0,.int .i64 0,.slice none 0 (.ex 0)] ++ [.int .u64 0,.int .u64 0,.int .i64 0,.slice none 0 (.ex 0),.slice none 0 (.ex 0)] ++ [.int .u64 0,.int .i64 0,.slice none 0 (.ex 0)]) (b:=[.int .u64 0,.slice none 0 (.ex 0)]) (RepL.append (RepL.append (RepL.append (RepL.append (cfg_rep zcfg) ?_) ?_) ?_) ?_) ?_
  · exact .cons (.flat rfl) (.cons (.flat rfl) (.cons .nil .nil))
  · exact .cons (.flat rfl) (.cons (.flat rfl) (.cons (.flat rfl) (.cons .nil (.cons (.flat rfl) (.cons (.flat rfl) (.cons .nil .nil))))))
  · exact .cons (.flat rfl) (.cons (.flat rfl) (.cons (.flat rfl) (.cons .nil (.cons .nil .nil))))
  · exact .cons (.flat rfl) (.cons (.flat rfl) (.cons .nil .nil))
  · exact .cons (.flat rfl) (.cons .nil .nil)
theorem zero_sml:Sml zeroB:=by
  refine ⟨by decide,by decide,?_,⟨by decide,?_⟩,by decide,⟨by decide,?_⟩,by decide,?_,⟨by decide,?_⟩,?_⟩
  all_goals intro x hx; cases hx
theorem dbl66z {σ:St}:Xp (C M) 66 [] σ = .val (.agg W0):=by kernel_rfl
theorem news_run {n:Nat} {σ:St} {c:Cfg} (hs:c.seed < 18446744073709551616):Yl (Ql (C M) TT (n + 12) 3 [.agg c.cells] σ) (fun v _=>v = B true):=by
  have ht:=fr_TT
  refine Q3 (ht _ rfl) Tryz.func3 (by kernel_rfl) ?_
  rw [F3_eq]
  unfold K3_0
  refine Yn fun s1 b1 e1 a1 _=>?_
  have aw:∀ m (σ:St),Ql (C M) TT (m + 1) 8 [] σ = some (B true,σ):=fun m σ=>call_flat aw_TT rfl
  unfold K3_1
  refine Qb (Q7 a1.2 ag24 sz24 rfl) ?_
  refine V4 rfl (bank_new (n:=n + 6) (c:=c) (free_of ht) hs) fun v s2 ⟨e2,hv⟩=>?_
  have cb:=conf_bad c
  rcases hv with ⟨hb,rfl⟩ | ⟨hb,cs,rfl,hn⟩
  · rw [hb] at cb
    refine Qb (rfl) ?_
    refine Qb (rfl) ?_
    refine y_cpy new69 sz45 rfl rfl fun s3 b3 e3 a3 _=>?_
    have a1':=(a1.ext e2).ext e3
    obtain ⟨_,s4,c4,rfl,e4⟩:=config_run (n:=n + 9) (σ:=s3) (c:=c) ht
    rw [cb] at c4
    refine Qb (Q7 a1'.2 ag24 sz24 rfl) ?_
    refine Xs rfl (c4) ?_
    refine Qb (Va) ?_
    refine Xc (rfl) ?_
    have a34:=a3.ext e4
    obtain ⟨_,s5,c5,e5,cs,rfl,r5⟩:=ref_run (n:=n + 10) (σ:=s4) (ok:=fun _=>True) ht zero_rep zero_sml
    obtain ⟨_,s6,c6,rfl,e6⟩:=eq20 (n:=n + 7) (σ:=s5) (ok2:=fun _=>True) ht r5 zero_rep zero_sml.few
    refine Qb (J6 (by omega)) ?_
    refine Qb (Qe (Q7 a34.2 ag45 sz45 rfl)) ?_
    refine V8 rfl rfl (c5) ?_
    refine Qb (Qe (dbl66z)) ?_
    refine V8 rfl rfl (c6) ?_
    refine Qb (rfl) ?_
    refine V8 rfl rfl (aw (n + 10) s6) ?_
    refine Qb (rfl) ?_
    exact Qs rfl
  · rw [hb] at cb
    have g:=newB_good hb hs
    obtain ⟨rj',bv',lv',fv',rr',uv',sv',hcs,_⟩:=Wb hn
    subst hcs
    refine Qb (rfl) ?_
    refine Qb (rfl) ?_
    refine y_cpy new69 sz45 rfl rfl fun s3 b3 e3 a3 _=>?_
    have a1':=(a1.ext e2).ext e3
    obtain ⟨_,s4,c4,rfl,e4⟩:=config_run (n:=n + 9) (σ:=s3) (c:=c) ht
    rw [cb] at c4
    refine Qb (Q7 a1'.2 ag24 sz24 rfl) ?_
    refine Xs rfl (c4) ?_
    refine Qb (Va) ?_
    refine Qx (rfl) ?_
    have a34:=a3.ext e4
    have hn4:=(hn.ext e3).ext e4
    obtain ⟨_,s5,c5,rfl,e5⟩:=bank_right (n:=n) (σ:=s4) ht hn4 g
    obtain ⟨_,s6,c6,e6,cs,rfl,r6⟩:=ref_run (n:=n + 10) (σ:=s5) ht (hn4.ext e5) g.sml
    obtain ⟨_,s7,c7,e7,cs2,rfl,r7⟩:=doc_new (n:=n + 4) (σ:=s6) (c:=c) ht (cfg_ok hb) hs
    obtain ⟨_,s8,c8,rfl,e8⟩:=eq20 (n:=n + 7) (σ:=s7) ht (r6.ext e7) r7 g.sml.few
    have a15:=(a1'.ext e4).ext e5
    refine X0 ?_
    refine Qf (J6 (by omega)) ?_
    refine Qj (Qe (Q7 a34.2 ag45 sz45 rfl)) rfl ?_
    refine y_dgc rfl rfl c5 ?_
    refine Qf (rfl) ?_
    refine Qj (Qe (Q7 (a34.ext e5).2 ag45 sz45 rfl)) rfl ?_
    refine y_dgc rfl rfl c6 ?_
    refine Y1 rfl (Q7 (a15.ext e6).2 ag24 sz24 rfl) (Q7 (a15.ext e6).2 ag24 sz24 rfl) (Q7 a15.2 ag24 sz24 rfl) rfl ?_
    refine y_dgc rfl rfl c7 (y_dgc rfl rfl c8 ?_)
    refine Qf (rfl) ?_
    refine y_dgc rfl rfl (aw (n + 10) s8) ?_
    refine Qf (rfl) ?_
    exact Qs rfl
end Core
end Go.Proofs.YtjfgdcegpgoobaaGreatDoor
