/- An abstract interpreter of the model's code and the proof that it is sound: part 4 of 4. -/
import Derived.Test.YtjfgdcegpgoobaaGreatDoorR3
set_option linter.unusedVariables false
namespace Go.Run
variable {cx:Cx} {call:Qd} {σ σ':St} {Q:AV→St→Prop}
theorem takeN_all {α:Type}:∀ (l:List α),Yo (Ym l) l = some l
  | []=>rfl
  | a :: r=>by show (match Yo (Ym r) r with | some l=>some (a :: l) | none=>none) = _; rw [takeN_all r]
theorem lenN_len {α:Type}:∀ (l:List α),Ym l = l.length
  | []=>rfl
  | a :: r=>by show Nat.succ (Ym r) = _; rw [lenN_len r]; rfl
theorem takeN_len {α:Type} {l:List α} {n:Nat} (h:l.length = n):Yo n l = some l:=by rw [← h,← lenN_len]; exact takeN_all l
theorem o_append {t e n len:Nat} {ts:List TypeId} {inf:TypeInfo} {p:Option (Nat × Nat)} {cap:Cap} {x:AV} {new row:List CV} (hu:und cx t = some (.slice e)) (hi:cx.P.info? e = some inf) (hl:lenA x = some n)
    (hc:(noInt cx ts && !(Nat.beq inf.size 0) && Nat.ble (Nat.mul (Nat.add (Nat.mul 2 (Nat.add len n)) 2048) inf.bytes) 140737488355328 && Nat.ble (Nat.add len n) 4611686018427387904) = true)
    (hf:firstA inf.size n x σ = some new) (hr:Na cx e inf.size 1 = some row) (hn:Nat.beq n 0 = false):Qv cx .append (t :: ts) [.one (.slice p len cap),x] σ = appendTo e inf.size p len cap n new σ:=by
  show appendA cx (t :: ts) [.one (.slice p len cap),x] σ = _
  unfold appendA
  simp only [hu,hi,hl,hc,cond_true,hf,hr,hn,cond_false]
theorem append_nil {e sz len n:Nat} {cap:Cap} {new:List CV}:appendTo e sz none len cap n new σ = .st (.one (.slice (some (σ.next,0)) (Nat.add len n) (.to sz))) (σ.push (.cells new e false)):=rfl
theorem append_full {e sz len n j:Nat} {new l:List CV} (hj:σ.get j = some (.cells l e false)) (hlen:l.length = len * (sz + 1)) (hn:n ≠ 0) :
    appendTo e (sz + 1) (some (j,0)) len (.to (sz + 1)) n new σ = .st (.one (.slice (some (σ.next,0)) (len + n) (.to (sz + 1)))) ((σ.kill j).push (.cells (l ++ new) e false)):=by
  unfold appendTo
  have hc:capOf (j,0) (.to (sz + 1)) (sz + 1) σ = some (len,false):=by
    unfold capOf
    simp only [Nat.beq_refl,cond_true,hj]
    rw [lenN_len,hlen]
    show some (len * (sz + 1) / (sz + 1),false) = _
    rw [Nat.mul_div_cancel _ (Nat.succ_pos sz)]
  simp only [hc]
  have h1:Nat.ble (Nat.add len n) len = false:=by
    cases hb:Nat.ble (Nat.add len n) len with
    | false=>rfl
    | true=>have:=Nat.le_of_ble_eq_true hb; simp only [Nat.add_eq] at this; omega
  have h2:elemIs σ j e = true:=by unfold elemIs; simp only [hj,Nat.beq_refl]
  simp only [h1,cond_false,h2,Bool.or_true,cond_true]
  have h3:firstA (sz + 1) len (.one (.slice (some (j,0)) len (.to (sz + 1)))) σ = some l:=by
    unfold firstA
    cases h0:Nat.beq len 0 with
    | true=>
      have:=Nat.eq_of_beq_eq_true h0
      subst this
      simp only [Nat.zero_mul,List.length_eq_zero_iff] at hlen
      rw [hlen]
      simp only [cond_true]
    | false=>
      simp only [cond_false,hj,Blk.rd]
      exact takeN_len hlen
  simp only [h3]
  rfl
theorem get_kp (σ:St) (j i:Nat) (b:Blk):((σ.kill j).push b).get i = if i = σ.next then some b else if i = j then none else σ.get i:=by
  rw [St.get_push,St.get_kill]; rfl
theorem Xs {v:AV} {k:AV→Kt} {f:FuncId} {args:List AV} (hx:cx.ext f = none) (h:call f args σ = some (v,σ')) (hk:Yl (k v σ') Q):Yl (bnd (Qy cx call (fnV f) args) k σ) Q:=y_call (r:=none) hx h hk
theorem Q3 {tab:Tab} {n f:Nat} {args:List AV} {fn:Func} (ht:tab f = none) (hf:cx.P.funcs[f]? = some fn) (hok:(match fn.body with | some c=>Nat.ble (Ym args) fn.ntmps && Wn fn.ntmps c | none=>false) = true)
    (h:Yl (Qu cx (Ql cx tab n) fn args σ) Q):Yl (Ql cx tab (n + 1) f args σ) Q:=by
  obtain ⟨v,σ',h1,h2⟩:=h
  exact ⟨v,σ',Xf ht hf hok h1,h2⟩
theorem Qz {v:AV} {k:AV→Kt} {w:Option Bool} {o:St→Out} (hw:w = some true) (h:o σ = .val v) (hk:Yl (k v σ) Q):Yl (bnd (gdO w o) k σ) Q:=by subst hw; exact Qb h hk
theorem Xo {k:AV→Kt} {w:Option Bool} {o:St→Out} (hw:w = some false) (hk:Yl (k (.tup []) σ) Q):Yl (bnd (gdO w o) k σ) Q:=by subst hw; exact Qb rfl hk
theorem V8 {v:AV} {k:AV→Kt} {w:Option Bool} {f:FuncId} {args:List AV} (hw:w = some true) (hx:cx.ext f = none) (h:call f args σ = some (v,σ')) (hk:Yl (k v σ') Q):Yl (bnd (gdO w (Qy cx call (fnV f) args)) k σ) Q:=by subst hw; exact Xs hx h hk
end Go.Run
namespace Go.Run
variable {cx:Cx} {call:Qd} {σ σ':St} {Q:AV→St→Prop}
def Tab.add (t:Tab) (f:Nat) (s:List AV→St→Option (AV × St)):Tab:=fun g=>bif Nat.beq g f then some s else t g
theorem TabOk.add {t:Tab} {f:Nat} {s:List AV→St→Option (AV × St)} (h:TabOk cx t) (hs:∀ args σ v σ',s args σ = some (v,σ')→∀ π w (vs:Array Value),R π σ w→GlobOk cx π→RT π args vs.toList →
    (∃ fn,cx.P.funcs[f]? = some fn∧fn.body ≠ none)∧Calls cx.P f vs w (Post cx.P π σ w v σ')):TabOk cx (t.add f s):=by
  intro g s' hg args σ v σ' hs' π w vs hR hG hargs
  unfold Tab.add at hg
  cases hb:Nat.beq g f with
  | true=>
    rw [hb] at hg
    cases hg
    have:=Nat.eq_of_beq_eq_true hb
    subst this
    exact hs args σ v σ' hs' π w vs hR hG hargs
  | false=>rw [hb] at hg; exact h g s' hg args σ v σ' hs' π w vs hR hG hargs
def flatS (spec:List AV→Option AV):List AV→St→Option (AV × St):=fun args σ=>match spec args with
  | some v=>some (v,σ)
  | none=>none
theorem TabOk.flat (hx:ExtOk cx) (hm:cx.P.follows .mixedOrders = true) (hg:∀ g,cx.g.get .bad g = .bad) {t t0:Tab} (h:TabOk cx t) (h0:TabOk cx t0) {f:Nat} {spec:List AV→Option AV}
    (hs:∀ args v,spec args = some v→flatVs args = true∧flatT v = true∧∃ n σ',Ql cx t0 n f args σE = some (v,σ')):TabOk cx (t.add f (flatS spec)):=by
  refine h.add fun args σ v σ' hsp π w vs hR hG hargs=>?_
  unfold flatS at hsp
  split at hsp
  · rename_i v2 hv2
    cases hsp
    obtain ⟨h1,h2,n,σ2,h3⟩:=hs _ _ hv2
    exact flat_call (callK_ok hx h0 hm n) h3 h2 h1 hR hg hargs
  · cases hsp
theorem call_flat {t:Tab} {n f:Nat} {args:List AV} {spec:List AV→Option AV} {v:AV} (ht:t f = some (flatS spec)) (hv:spec args = some v):Ql cx t (n + 1) f args σ = some (v,σ):=by
  rw [callK_tab ht]
  unfold flatS
  rw [hv]
theorem bytesEq_dec (a b:List UInt8):Vf a b = decide (a = b):=by
  rw [Y8]
  by_cases h:a = b <;> simp [h]
theorem o_seql {t:TypeId} {a b:List UInt8}:Qi cx .eql t (S a) (S b) σ = .val (B (decide (a = b))):=by
  show Out.val (.one (.bool (Vf a b))) = _
  rw [bytesEq_dec]; rfl
theorem o_sneq {t:TypeId} {a b:List UInt8}:Qi cx .neq t (S a) (S b) σ = .val (B (!decide (a = b))):=by
  show Out.val (.one (.bool (!Vf a b))) = _
  rw [bytesEq_dec]; rfl
theorem o_slen {t:TypeId} {ts:List TypeId} {a:List UInt8} (h:und cx t = some .string):Qv cx .len (t :: ts) [S a] σ = .val (I (a.length:Nat)):=by
  show lenB cx (t :: ts) [S a] σ = _
  unfold lenB
  simp only [h]
  show Out.val (.one (.int .i64 (.ofNat (Ym a)))) = _
  rw [lenN_len]; rfl
theorem bytesAt_cells:∀ (l:List UInt8),bytesAt (Y2 l) = some l
  | []=>rfl
  | b :: r=>by
    show (bif Nat.blt b.toNat 256 then (match bytesAt (Y2 r) with | some c=>some (b.toNat.toUInt8 :: c) | none=>none) else none) = _
    have h:Nat.blt b.toNat 256 = true:=Nat.ble_eq_true_of_le b.toNat_lt
    rw [h,bytesAt_cells r]
    simp only [cond_true]
    congr 2
    exact UInt8.ofNat_toNat
theorem nth_get {α:Type}:∀ (l:List α) (n:Nat),nth l n = l[n]?
  | [],n=>by simp [nth]
  | a :: l,0=>rfl
  | a :: l,n + 1=>by simp only [nth,List.getElem?_cons_succ]; exact nth_get l n
theorem dropN_zero {α:Type} (l:List α):Vm 0 l = l:=rfl
theorem Y9 {α:Type}:∀ (n:Nat) (l:List α),Vm n l = l.drop n
  | 0,_=>rfl
  | n + 1,[]=>by simp [Vm]
  | n + 1,a :: l=>by show Vm n l = _; rw [Y9 n l]; rfl
theorem Vb {α:Type}:∀ (n:Nat) (l:List α),n≤l.length→Yo n l = some (l.take n)
  | 0,l,_=>by simp [Yo]
  | n + 1,[],h=>by simp at h
  | n + 1,a :: l,h=>by
    show (match Yo n l with | some r=>some (a :: r) | none=>none) = _
    rw [Vb n l (by simpa using h)]
    rfl
theorem repN_one {α:Type} (a:α):∀ n,Xj n [a] = List.replicate n a
  | 0=>rfl
  | n + 1=>by show [a] ++ Xj n [a] = _; rw [repN_one a n]; rfl
theorem o_iad {t e sz n j b o:Nat} {cap:Cap} (hu:und cx t = some (.slice e)) (hs:size cx e = some sz) (h:j < n):Q9 cx t (.one (.slice (some (b,o)) n cap)) (I (j:Nat)) σ = .val (P b (o + j * sz)):=by
  show Jf cx t (.one (.slice (some (b,o)) n cap)) (I (j:Nat)) = _
  unfold Jf
  simp only [hu]
  show (match size cx e with | some sz=>bif Nat.blt j n then Out.val (.one (.ptr (some (b,Nat.add o (Nat.mul j sz))))) else Out.no | none=>Out.no) = _
  rw [hs]
  have:Nat.blt j n = true:=Nat.ble_eq_true_of_le h
  simp only [this,cond_true,Nat.add_eq,Nat.mul_eq]
theorem o_mks {t e len cp:Nat} {inf:TypeInfo} {z:List CV} (hu:und cx t = some (.slice e)) (hi:cx.P.info? e = some inf) (hz:Na cx e inf.size cp = some z)
    (hc:(Nat.ble (inf.bytes * cp) 140737488355328 && Nat.ble len cp && Nat.ble cp 4611686018427387904 && !(Nat.beq inf.size 0)) = true) :
    mksO cx t (I (len:Nat)) (I (cp:Nat)) σ = .new (.cells z e true) (fun i=>.one (.slice (some (i,0)) len (.to inf.size))):=by
  show Je cx t (I (len:Nat)) (I (cp:Nat)) = _
  unfold Je
  simp only [hu]
  show (match cx.P.info? e with
      | some i=>bif Nat.ble (i.bytes * cp) 140737488355328 && Nat.ble len cp && Nat.ble cp 4611686018427387904 && !(Nat.beq i.size 0) then
          match Na cx e i.size cp with
          | some z=>sliceNew z e len i.size
          | none=>.no
        else .no
      | none=>.no) = _
  simp only [hi,hc,cond_true,hz]
  rfl
theorem o_rem {t:TypeId} {a c:Int} (h:c ≠ 0):Qi cx .rem t (I a) (I c) σ = .val (I (Int.tmod a c)):=by
  show (bif true && !(Yp c 0) then intV .i64 (Int.tmod a c) else Out.no) = _
  rw [Yd]
  have:(c == 0) = false:=by simpa using h
  rw [this]
  exact Vo .i64 _
theorem o_cvS {s d e b o n:Nat} {cap:Cap} {blk:Blk} {l:List CV} {bs:List UInt8} (hs:und cx s = some (.slice e)) (he:und cx e = some (.int .u8)) (hd:und cx d = some .string) (hg:σ.get b = some blk) (hb:Blk.rd (some blk) = some l)
    (hl:Yo n (Vm o l) = some (Y2 bs)):cvO cx s d (.one (.slice (some (b,o)) n cap)) σ = .val (S bs):=by
  show convA cx s d (.one (.slice (some (b,o)) n cap)) σ = _
  unfold convA
  simp only [hs,hd,he,hg,hb,hl,bytesAt_cells]
  rfl
end Go.Run
namespace Go.Run
def be (k n:Nat):List UInt8:=(List.range k).map fun i=>UInt8.ofNat (n / 256 ^ (k - 1 - i) % 256)
end Go.Run
namespace Go.Run
variable {cx:Cx}
def roB:Blk→Blk
  | .cells l _ _=>.ro l
  | b=>b
noncomputable def parts (bl:List Blk):St:=pushAll σE (bl.map roB)
noncomputable def newB (spec:List AV→Option (AV × List Blk × List Nat)):List AV→St→Option (AV × St):=fun args σ=>match spec args with
  | some (v,bs,nu)=>some (rnR (phi nu σ.next) v,pushAll σ (bs.map (rnB (phi nu σ.next))))
  | none=>none
end Go.Run
namespace Go.Run
variable {cx:Cx} {σ:St} {t:TypeId}
theorem u_wrap {n:Nat}:Vg .u64 (n:Int) = ((n % 18446744073709551616:Nat):Int):=rfl
theorem u_bits {n:Nat} (h:n < 18446744073709551616):bits .u64 (n:Int) = n:=by
  show n % (2 ^ 64) = n
  exact Nat.mod_eq_of_lt h
theorem ou_add {a b:Nat}:Qi cx .add t (Iu (a:Int)) (Iu (b:Int)) σ = .val (Iu (((a + b) % 18446744073709551616:Nat):Int)):=by
  show intV .u64 (Vg .u64 ((a + b:Nat):Int)) = _
  rw [Vo,u_wrap]; rfl
theorem ou_mul {a b:Nat}:Qi cx .mul t (Iu (a:Int)) (Iu (b:Int)) σ = .val (Iu (((a * b) % 18446744073709551616:Nat):Int)):=by
  show intV .u64 (Vg .u64 ((a * b:Nat):Int)) = _
  rw [Vo,u_wrap]; rfl
theorem ou_sub {a b:Nat} (h:b≤a) (ha:a < 18446744073709551616):Qi cx .sub t (Iu (a:Int)) (Iu (b:Int)) σ = .val (Iu ((a - b:Nat):Int)):=by
  have e:(a:Int) - (b:Int) = ((a - b:Nat):Int):=by omega
  show intV .u64 (Vg .u64 ((a:Int) - (b:Int))) = _
  rw [Vo,e,u_wrap,Nat.mod_eq_of_lt (by omega)]; rfl
theorem ou_and {a b:Nat} (ha:a < 18446744073709551616) (hb:b < 18446744073709551616):Qi cx .and t (Iu (a:Int)) (Iu (b:Int)) σ = .val (Iu ((a &&& b:Nat):Int)):=by
  show intV .u64 (Vg .u64 (.ofNat (Nat.land (bits .u64 (a:Int)) (bits .u64 (b:Int))))) = _
  rw [Vo,u_bits ha,u_bits hb]
  have:Nat.land a b < 18446744073709551616:=Nat.lt_of_le_of_lt Nat.and_le_left ha
  show Out.val (Iu (Vg .u64 ((Nat.land a b:Nat):Int))) = _
  rw [u_wrap,Nat.mod_eq_of_lt this]; rfl
theorem ou_or {a b:Nat} (ha:a < 18446744073709551616) (hb:b < 18446744073709551616):Qi cx .or t (Iu (a:Int)) (Iu (b:Int)) σ = .val (Iu ((a ||| b:Nat):Int)):=by
  show intV .u64 (Vg .u64 (.ofNat (Nat.lor (bits .u64 (a:Int)) (bits .u64 (b:Int))))) = _
  rw [Vo,u_bits ha,u_bits hb]
  have:Nat.lor a b < 2 ^ 64:=Nat.or_lt_two_pow (by exact ha) (by exact hb)
  show Out.val (Iu (Vg .u64 ((Nat.lor a b:Nat):Int))) = _
  rw [u_wrap,Nat.mod_eq_of_lt (by exact this)]; rfl
theorem ou_shr {a c:Nat} {k:IntKind} (h:c≤64):Qi cx .shr t (Iu (a:Int)) (.one (.int k (.ofNat c))) σ = .val (Iu ((a / 2 ^ c:Nat):Int)):=by
  show intV .u64 (Int.fdiv (a:Int) (.ofNat (Nat.pow 2 (bif Nat.ble c 64 then c else 64)))) = _
  rw [Nat.ble_eq_true_of_le h,Vo]
  show Out.val (Iu (Int.fdiv (a:Int) ((2 ^ c:Nat):Int))) = _
  rw [Int.fdiv_eq_ediv_of_nonneg _ (Int.natCast_nonneg _),← Int.natCast_ediv]
theorem ou_shl {a c:Nat} {k:IntKind} (h:c≤64):Qi cx .shl t (Iu (a:Int)) (.one (.int k (.ofNat c))) σ = .val (Iu (((a * 2 ^ c) % 18446744073709551616:Nat):Int)):=by
  show intV .u64 (Vg .u64 (Int.mul (a:Int) (.ofNat (Nat.pow 2 (bif Nat.ble c 64 then c else 64))))) = _
  rw [Nat.ble_eq_true_of_le h,Vo]
  rfl
theorem ou_rem {a b:Nat} (h:b ≠ 0):Qi cx .rem t (Iu (a:Int)) (Iu (b:Int)) σ = .val (Iu ((a % b:Nat):Int)):=by
  show (bif true && !(Yp (b:Int) 0) then intV .u64 (Int.tmod (a:Int) (b:Int)) else Out.no) = _
  rw [Yd]
  have:((b:Int) == 0) = false:=by simp only [beq_eq_false_iff_ne,ne_eq]; omega
  rw [this,Vo]; rfl
theorem ou_quo {a b:Nat} (h:b ≠ 0) (ha:a < 18446744073709551616):Qi cx .quo t (Iu (a:Int)) (Iu (b:Int)) σ = .val (Iu ((a / b:Nat):Int)):=by
  show (bif true && !(Yp (b:Int) 0) then intV .u64 (Vg .u64 (Int.tdiv (a:Int) (b:Int))) else Out.no) = _
  rw [Yd]
  have:((b:Int) == 0) = false:=by simp only [beq_eq_false_iff_ne,ne_eq]; omega
  rw [this]
  show intV .u64 (Vg .u64 ((a / b:Nat):Int)) = _
  rw [Vo,u_wrap,Nat.mod_eq_of_lt (Nat.lt_of_le_of_lt (Nat.div_le_self _ _) ha)]; rfl
theorem ou_geq {a b:Nat}:Qi cx .geq t (Iu (a:Int)) (Iu (b:Int)) σ = .val (B (decide (b≤a))):=by
  show Out.val (B (!(intLt (a:Int) (b:Int)))) = _
  rw [V2]
  by_cases h:a < b
  · rw [decide_eq_true (by omega),decide_eq_false (by omega)]; rfl
  · rw [decide_eq_false (by omega),decide_eq_true (by omega)]; rfl
theorem ou_gtr {a b:Nat}:Qi cx .gtr t (Iu (a:Int)) (Iu (b:Int)) σ = .val (B (decide (b < a))):=by
  show Out.val (B (intLt (b:Int) (a:Int))) = _
  rw [V2]
  by_cases h:b < a
  · rw [decide_eq_true (by omega),decide_eq_true h]
  · rw [decide_eq_false (by omega),decide_eq_false h]
theorem ou_eql {a b:Nat}:Qi cx .eql t (Iu (a:Int)) (Iu (b:Int)) σ = .val (B (decide (a = b))):=by
  show Out.val (B (Yp (a:Int) (b:Int))) = _
  rw [Yd]
  by_cases h:a = b
  · subst h; simp
  · have:((a:Int) == (b:Int)) = false:=by simp only [beq_eq_false_iff_ne,ne_eq]; omega
    rw [this,decide_eq_false h]
def PR:Nat:=2305843009213693951
theorem and_PR (a:Nat):a &&& 2305843009213693951 = a % 2305843009213693952:=by
  have:(2305843009213693951:Nat) = 2 ^ 61 - 1:=by decide
  rw [this,Nat.and_two_pow_sub_one_eq_mod]
theorem fold_PR (a:Nat):(a % 2305843009213693952 + a / 2305843009213693952) % PR = a % PR:=by unfold PR; omega
theorem of_PR {a:Nat} (h:a < 18446744073709551616):(if 2305843009213693951≤a % 2305843009213693952 + a / 2305843009213693952 then a % 2305843009213693952 + a / 2305843009213693952 - 2305843009213693951 else a % 2305843009213693952 + a / 2305843009213693952) = a % PR:=by
  unfold PR
  split <;> omega
end Go.Run
namespace Go.Run
variable {cx:Cx} {σ σ':St}
inductive DV where
  | flat (c:CV)
  | sl (sz:Nat) (es:List (List DV))
def Gr (σ σ':St):Prop:=σ.next≤σ'.next∧∀ i,i < σ.next→σ'.get i = σ.get i
theorem Gr.refl (σ:St):Gr σ σ:=⟨Nat.le_refl _,fun _ _=>rfl⟩
theorem Gr.trans {a b c:St} (h:Gr a b) (h':Gr b c):Gr a c:=⟨Nat.le_trans h.1 h'.1,fun i hi=>(h'.2 i (Nat.lt_of_lt_of_le hi h.1)).trans (h.2 i hi)⟩
theorem Gr.push (σ:St) (b:Blk):Gr σ (σ.push b):=⟨by rw [St.next_push]; omega,fun i hi=>by rw [St.get_push,if_neg (by omega)]⟩
theorem Gr.gap (σ:St) (n:Nat):Gr σ (σ.gap n):=⟨by rw [St.next_gap]; omega,fun i _=>rfl⟩
theorem Gr.put {σ σ':St} (h:Gr σ σ') {j:Nat} (b:Blk) (hj:σ.next≤j):Gr σ (σ'.put j b):=⟨h.1,fun i hi=>by rw [St.get_put,if_neg (by omega)]; exact h.2 i hi⟩
theorem Gr.lay {σ σ':St} (h:Gr σ σ') {j:Nat} (b:Blk) (hj:σ.next≤j):Gr σ (σ'.lay j b):=⟨h.1,fun i hi=>by rw [St.get_lay,if_neg (by omega)]; exact h.2 i hi⟩
inductive Rep (ok:Nat→Prop) (σ:St):CV→DV→Prop
  | flat {c:CV} (h:flatC c = true):Rep ok σ c (.flat c)
  | nil {sz:Nat}:Rep ok σ (.slice none 0 (.ex 0)) (.sl sz [])
  | sl {b o sz n:Nat} {cap:Cap} {blk:Blk} {l:List CV} {es:List (List DV)} (f:Nat→Nat→CV) (ho:ok b) (hb:b < σ.next) (hg:σ.get b = some blk) (hr:Blk.rd (some blk) = some l) (hn:es.length = n)
      (hl:∀ (i:Nat) (e:List DV),es[i]? = some e→e.length = sz) (hc:∀ (i:Nat) (e:List DV) (k:Nat) (d:DV),es[i]? = some e→e[k]? = some d→l[o + i * sz + k]? = some (f i k))
      (hd:∀ (i:Nat) (e:List DV) (k:Nat) (d:DV),es[i]? = some e→e[k]? = some d→Rep ok σ (f i k) d):Rep ok σ (.slice (some (b,o)) n cap) (.sl sz es)
theorem Rep.to {ok ok':Nat→Prop} {c:CV} {d:DV} (h:Rep ok σ c d) (e:∀ i,ok i→i < σ.next→σ'.get i = σ.get i∧i < σ'.next∧ok' i):Rep ok' σ' c d:=by
  induction h with
  | flat h=>exact .flat h
  | nil=>exact .nil
  | sl f ho hb hg hr hn hl hc hd ih=>exact .sl f (e _ ho hb).2.2 (e _ ho hb).2.1 ((e _ ho hb).1.trans hg) hr hn hl hc ih
theorem Rep.ext {ok:Nat→Prop} {c:CV} {d:DV} (h:Rep ok σ c d) (e:Gr σ σ'):Rep ok σ' c d:=h.to fun i ho hi=>⟨e.2 i hi,Nat.lt_of_lt_of_le hi e.1,ho⟩
inductive RepL (ok:Nat→Prop) (σ:St):List CV→List DV→Prop
  | nil:RepL ok σ [] []
  | cons {c:CV} {d:DV} {cs:List CV} {ds:List DV} (h:Rep ok σ c d) (t:RepL ok σ cs ds):RepL ok σ (c :: cs) (d :: ds)
variable {ok ok':Nat→Prop}
theorem RepL.to {cs:List CV} {ds:List DV} (h:RepL ok σ cs ds) (e:∀ i,ok i→i < σ.next→σ'.get i = σ.get i∧i < σ'.next∧ok' i):RepL ok' σ' cs ds:=by
  induction h with
  | nil=>exact .nil
  | cons h t ih=>exact .cons (h.to e) ih
theorem RepL.ext {cs:List CV} {ds:List DV} (h:RepL ok σ cs ds) (e:Gr σ σ'):RepL ok σ' cs ds:=h.to fun i ho hi=>⟨e.2 i hi,Nat.lt_of_lt_of_le hi e.1,ho⟩
theorem RepL.len {cs:List CV} {ds:List DV} (h:RepL ok σ cs ds):cs.length = ds.length:=by
  induction h with
  | nil=>rfl
  | cons h t ih=>simp [ih]
theorem RepL.get {cs:List CV} {ds:List DV} (h:RepL ok σ cs ds):∀ {k:Nat} {d:DV},ds[k]? = some d→∃ c,cs[k]? = some c∧Rep ok σ c d:=by
  induction h with
  | nil=>intro k d hk; simp at hk
  | cons h t ih=>
    intro k d hk
    cases k with
    | zero=>simp at hk; subst hk; exact ⟨_,rfl,h⟩
    | succ k=>simpa using ih (by simpa using hk)
theorem RepL.append {a b:List CV} {x y:List DV} (h:RepL ok σ a x) (h':RepL ok σ b y):RepL ok σ (a ++ b) (x ++ y):=by
  induction h with
  | nil=>exact h'
  | cons h t ih=>exact .cons h ih
theorem RepL.of_get:∀ {ds:List DV} {cs:List CV},cs.length = ds.length→(∀ (k:Nat) (d:DV),ds[k]? = some d→∃ c,cs[k]? = some c∧Rep ok σ c d)→RepL ok σ cs ds
  | [],[],_,_=>.nil
  | d :: ds,c :: cs,hl,h=>by
    obtain ⟨c',h1,h2⟩:=h 0 d rfl
    simp at h1
    subst h1
    exact .cons h2 (RepL.of_get (by simpa using hl) fun k d hk=>by simpa using h (k + 1) d (by simpa using hk))
  | [],_ :: _,hl,_=>by simp at hl
  | _ :: _,[],hl,_=>by simp at hl
theorem Rep.elem {cv:CV} {sz:Nat} {es:List (List DV)} (h:Rep ok σ cv (.sl sz es)) {j:Nat} {e:List DV} (he:es[j]? = some e) :
    ∃ b o cap blk l cs,cv = .slice (some (b,o)) es.length cap∧ok b∧b < σ.next∧σ.get b = some blk∧Blk.rd (some blk) = some l∧Yo sz (Vm (o + j * sz) l) = some cs∧RepL ok σ cs e∧e.length = sz:=by
  cases h with
  | nil=>simp at he
  | sl f ho hb hg hr hn hl hc hd=>
    rename_i b o n cap blk l
    subst hn
    have hlen:=hl j e he
    have hcs:(l.drop (o + j * sz)).take sz = (List.range sz).map (f j):=by
      apply List.ext_getElem?
      intro k
      by_cases hk:k < sz
      · have hd':e[k]? = some (e[k]'(by omega)):=List.getElem?_eq_getElem (by omega)
        rw [List.getElem?_take,if_pos hk,List.getElem?_drop,hc j e k _ he hd',List.getElem?_map,List.getElem?_range hk]; rfl
      · rw [List.getElem?_take,if_neg hk,List.getElem?_eq_none (by simp; omega)]
    have hfit:sz≤(l.drop (o + j * sz)).length:=by
      have:=congrArg List.length hcs
      simp only [List.length_take,List.length_map,List.length_range] at this
      omega
    refine ⟨b,o,cap,blk,l,(List.range sz).map (f j),rfl,ho,hb,hg,hr,?_,?_,hlen⟩
    · rw [Y9,Vb _ _ hfit,hcs]
    · refine RepL.of_get (by simp [hlen]) fun k d hk=>?_
      have hk':k < sz:=by rw [← hlen]; exact (List.getElem?_eq_some_iff.mp hk).1
      exact ⟨f j k,by rw [List.getElem?_map,List.getElem?_range hk']; rfl,hd j e k d he hk⟩
theorem Rep.len {cv:CV} {sz:Nat} {es:List (List DV)} (h:Rep ok σ cv (.sl sz es)):∃ p cap,cv = .slice p es.length cap:=by
  cases h with
  | nil=>exact ⟨none,.ex 0,rfl⟩
  | sl f ho hb hg hr hn hl hc hd=>subst hn; exact ⟨_,_,rfl⟩
theorem Rep.mk {b o sz:Nat} {cap:Cap} {blk:Blk} {l:List CV} {es:List (List DV)} (ho:ok b) (hb:b < σ.next) (hg:σ.get b = some blk) (hr:Blk.rd (some blk) = some l) (hl:∀ (i:Nat) (e:List DV),es[i]? = some e→e.length = sz)
    (hc:∀ (i:Nat) (e:List DV),es[i]? = some e→∃ cs,Yo sz (Vm (o + i * sz) l) = some cs∧RepL ok σ cs e):Rep ok σ (.slice (some (b,o)) es.length cap) (.sl sz es):=by
  have get:∀ (i:Nat) (e:List DV) (k:Nat) (d:DV),es[i]? = some e→e[k]? = some d→∃ c,l[o + i * sz + k]? = some c∧Rep ok σ c d:=by
    intro i e k d he hk
    obtain ⟨cs,h1,h2⟩:=hc i e he
    obtain ⟨c,h3,h4⟩:=h2.get hk
    have hsz:=hl i e he
    have hlen:=h2.len
    refine ⟨c,?_,h4⟩
    have hfit:sz≤(l.drop (o + i * sz)).length:=by
      rcases Nat.lt_or_ge (l.drop (o + i * sz)).length sz with h | h
      · exfalso
        rw [Y9] at h1
        have key:∀ (n:Nat) (x:List CV),x.length < n→Yo n x = none:=by
          intro n
          induction n with
          | zero=>intro x hx; omega
          | succ n ih=>
            intro x hx
            cases x with
            | nil=>rfl
            | cons a r=>
              simp only [Yo,ih r (by simpa using hx)]
        rw [key _ _ h] at h1
        cases h1
      · exact h
    rw [Y9,Vb _ _ hfit] at h1
    cases h1
    rw [List.getElem?_take] at h3
    split at h3
    · rw [List.getElem?_drop] at h3; exact h3
    · cases h3
  refine .sl (fun i k=>(l[o + i * sz + k]?).getD .nilI) ho hb hg hr rfl hl (fun i e k d he hk=>?_) (fun i e k d he hk=>?_)
  · obtain ⟨c,h1,_⟩:=get i e k d he hk; rw [h1]; rfl
  · obtain ⟨c,h1,h2⟩:=get i e k d he hk; rw [h1]; exact h2
abbrev dI (n:Int):DV:=.flat (.int .i64 n)
abbrev dB (b:Bool):DV:=.flat (.bool b)
abbrev dS (l:List UInt8):DV:=.flat (.str ⟨⟨l⟩⟩)
def Ww (l:List Int):DV:=.sl 1 (l.map fun n=>[dI n])
def Zk (l:List Bool):DV:=.sl 1 (l.map fun n=>[dB n])
theorem Rep.of_flat {c d:CV} (h:Rep ok σ c (.flat d)):c = d:=by cases h; rfl
end Go.Run
namespace Go.Run
variable {cx:Cx} {call:Qd} {σ σ':St} {Q:AV→St→Prop}
section
variable {p b:Bool} {x c:Int} {t:TypeId} {K:AV→Kt} {o:St→Out}
theorem y_orl (h:Yl (K (B (p || decide (x < c))) σ) Q) :
    Yl (bnd (gdO (Qc (B p) false) (fun _=>.val (I x))) (fun v=>bnd (gdO (Qc (B p) false) (Qi cx .lss t v (I c))) fun w=>bnd (Qm (B p) (B true) w) K) σ) Q:=by
  cases p with
  | true=>exact Xo rfl (Xo rfl (Qb rfl (by rw [Bool.true_or] at h; exact h)))
  | false=>exact Qz rfl rfl (Qz rfl V3 (Qb rfl (by rw [Bool.false_or] at h; exact h)))
theorem y_org (h:Yl (K (B (p || decide (c < x))) σ) Q) :
    Yl (bnd (gdO (Qc (B p) false) (fun _=>.val (I x))) (fun v=>bnd (gdO (Qc (B p) false) (Qi cx .gtr t v (I c))) fun w=>bnd (Qm (B p) (B true) w) K) σ) Q:=by
  cases p with
  | true=>exact Xo rfl (Xo rfl (Qb rfl (by rw [Bool.true_or] at h; exact h)))
  | false=>exact Qz rfl rfl (Qz rfl o_gtr (Qb rfl (by rw [Bool.false_or] at h; exact h)))
end
theorem V4 {f:FuncId} {args:List AV} {k:AV→Kt} {Q':AV→St→Prop} (hx:cx.ext f = none) (h:Yl (call f args σ) Q') (hk:∀ v σ',Q' v σ'→Yl (k v σ') Q):Yl (bnd (Qy cx call (fnV f) args) k σ) Q:=by
  obtain ⟨v,σ',h1,h2⟩:=h
  exact Xs hx h1 (hk v σ' h2)
theorem y_dcyl {f:FuncId} {args:List AV} {k:AV→St→Kt} {Q':AV→St→Prop} (hx:cx.ext f = none) (h:Yl (call f args σ) Q') (hk:∀ v σ',Q' v σ'→Yl (k v σ' σ') Q):Yl (Xn (Qy cx call (fnV f) args) k σ) Q:=by
  obtain ⟨v,σ',h1,h2⟩:=h
  exact Vd hx h1 (hk v σ' h2)
end Go.Run
namespace Go.Run
variable {cx:Cx} {call:Qd} {σ σ':St} {Q:AV→St→Prop}
def Own (lo:Nat) (σ:St) (sz:Nat) (e:TypeId) (cv:CV) (l:List CV):Prop:=
  (cv = .slice none 0 (.ex 0)∧l = []) ∨ ∃ k n,cv = .slice (some (k,0)) n (.to (sz + 1))∧lo≤k∧k < σ.next∧σ.get k = some (.cells l e false)∧l.length = n * (sz + 1)
def X5 (cv:CV) (i:Nat):Prop:=∃ n c,cv = .slice (some (i,0)) n c
theorem Own.to {lo sz:Nat} {e:TypeId} {cv:CV} {l:List CV} (h:Own lo σ sz e cv l) (hn:σ.next≤σ'.next) (hg:∀ i,X5 cv i→σ'.get i = σ.get i):Own lo σ' sz e cv l:=by
  rcases h with h | ⟨k,n,rfl,h1,h2,h3,h4⟩
  · exact .inl h
  · exact .inr ⟨k,n,rfl,h1,by omega,(hg k ⟨n,_,rfl⟩).trans h3,h4⟩
theorem Own.nil {lo sz:Nat} {e:TypeId}:Own lo σ sz e (.slice none 0 (.ex 0)) []:=.inl ⟨rfl,rfl⟩
theorem Wr {t e sz by' lo vb:Nat} {cv:CV} {l new:List CV} {xb:Blk} (hu:und cx t = some (.slice e)) (hi:(cx.P.info? e).map (fun t=>(t.size,t.bytes)) = some (sz + 1,by')) (hno:noInt cx [t] = true) (hrow:(Na cx e (sz + 1) 1).isSome = true)
    (h:Own lo σ sz e cv l) (hlo:lo≤σ.next) (hv:σ.get vb = some xb) (hr:Blk.rd (some xb) = some new) (hnew:new.length = sz + 1) (hl:l.length≤1000000) (hb:by'≤10000) :
    ∃ cv' σ',Qv cx .append [t,t] [.one cv,.one (.slice (some (vb,0)) 1 (.to (sz + 1)))] σ = .st (.one cv') σ'∧Own lo σ' sz e cv' (l ++ new)∧σ'.next = σ.next + 1∧(∀ i,i < σ.next→¬ X5 cv i→σ'.get i = σ.get i)∧(∀ i,X5 cv' i→i = σ.next):=by
  obtain ⟨inf,h1,h2⟩:=Option.map_eq_some_iff.mp hi
  obtain ⟨h3,h4⟩:=Prod.mk.inj h2
  have h3:inf.size = sz + 1:=h3
  have h4:inf.bytes = by':=h4
  obtain ⟨row,hrow⟩:=Option.isSome_iff_exists.mp hrow
  have cond:∀ n,n≤1000000→(noInt cx [t] && !(Nat.beq inf.size 0) && Nat.ble (Nat.mul (Nat.add (Nat.mul 2 (Nat.add n 1)) 2048) inf.bytes) 140737488355328 && Nat.ble (Nat.add n 1) 4611686018427387904) = true:=by
    intro n hn
    have a2:Nat.ble (Nat.mul (Nat.add (Nat.mul 2 (Nat.add n 1)) 2048) inf.bytes) 140737488355328 = true:=by
      refine Nat.ble_eq_true_of_le ?_
      show (2 * (n + 1) + 2048) * inf.bytes≤_
      rw [h4]
      exact Nat.le_trans (Nat.mul_le_mul (show 2 * (n + 1) + 2048≤2002050 by omega) hb) (by decide)
    have a3:Nat.ble (Nat.add n 1) 4611686018427387904 = true:=Nat.ble_eq_true_of_le (by show n + 1≤_; omega)
    rw [hno,h3,a2,a3]; rfl
  have hfirst:firstA inf.size 1 (.one (.slice (some (vb,0)) 1 (.to (sz + 1)))) σ = some new:=by
    rw [h3]
    show (match Blk.rd (σ.get vb) with | some l=>Yo (Nat.mul 1 (sz + 1)) (Vm 0 l) | none=>none) = _
    rw [hv,hr]
    show Yo (1 * (sz + 1)) new = _
    exact takeN_len (by omega)
  rcases h with ⟨rfl,rfl⟩ | ⟨k,n,rfl,k1,k2,k3,k4⟩
  · refine ⟨.slice (some (σ.next,0)) (0 + 1) (.to (sz + 1)),σ.push (.cells new e false),?_,.inr ⟨σ.next,0 + 1,rfl,hlo,by rw [St.next_push]; omega,by rw [St.get_push,if_pos rfl]; simp,by simp [hnew]⟩,rfl,fun i hi _=>by rw [St.get_push,if_neg (by omega)],?_⟩
    · rw [o_append hu h1 rfl (cond 0 (by omega)) hfirst (by rw [h3]; exact hrow) rfl,h3]
      exact append_nil
    · rintro i ⟨n,c,hc⟩; cases hc; rfl
  · have hn:n≤1000000:=by
      have:n≤n * (sz + 1):=Nat.le_mul_of_pos_right n (by omega)
      omega
    refine ⟨.slice (some (σ.next,0)) (n + 1) (.to (sz + 1)),(σ.kill k).push (.cells (l ++ new) e false),?_,.inr ⟨σ.next,n + 1,rfl,hlo,by rw [St.next_push,St.next_kill]; omega,by rw [get_kp,if_pos rfl],?_⟩,by rw [St.next_push,St.next_kill],fun i hi hne=>?_,?_⟩
    · rw [o_append hu h1 rfl (cond n hn) hfirst (by rw [h3]; exact hrow) rfl,h3]
      exact append_full k3 k4 (by omega)
    · rw [List.length_append,k4,hnew,Nat.add_mul]; omega
    · rw [get_kp,if_neg (by omega),if_neg (fun e=>hne ⟨n,_,by rw [e]⟩)]
    · rintro i ⟨n,c,hc⟩; cases hc; rfl
theorem Own.rep {lo sz:Nat} {e:TypeId} {cv:CV} {l:List CV} {ok:Nat→Prop} {es:List (List DV)} (h:Own lo σ sz e cv l) (hok:∀ i,X5 cv i→ok i) (hl:∀ x ∈ es,x.length = sz + 1) (hr:RepL ok σ l es.flatten):Rep ok σ cv (.sl (sz + 1) es):=by
  rcases h with ⟨rfl,rfl⟩ | ⟨k,n,rfl,k1,k2,k3,k4⟩
  · cases es with
    | nil=>exact .nil
    | cons x r=>
      exfalso
      have:=hr.len
      have hx:=hl x (by simp)
      simp only [List.length_nil,List.flatten_cons,List.length_append] at this
      omega
  · have hlen:es.length = n:=by
      have h1:=hr.len
      have h2:∀ (es:List (List DV)),(∀ x ∈ es,x.length = sz + 1)→es.flatten.length = es.length * (sz + 1):=by
        intro es
        induction es with
        | nil=>intro _; simp
        | cons x r ih=>
          intro h
          rw [List.flatten_cons,List.length_append,ih (fun y hy=>h y (by simp [hy])),h x (by simp),List.length_cons,Nat.add_mul]; omega
      rw [h2 es hl,k4] at h1
      exact (Nat.eq_of_mul_eq_mul_right (by omega) h1).symm
    subst hlen
    refine Rep.mk (hok k ⟨_,_,rfl⟩) k2 k3 rfl (fun i x hx=>hl x (List.mem_of_getElem? hx)) fun i x hx=>?_
    have hsl:∀ (es:List (List DV)) (l:List CV),(∀ x ∈ es,x.length = sz + 1)→RepL ok σ l es.flatten→∀ (i:Nat) (x:List DV),es[i]? = some x→∃ cs,Yo (sz + 1) (Vm (0 + i * (sz + 1)) l) = some cs∧RepL ok σ cs x:=by
      intro es
      induction es with
      | nil=>intro l _ _ i x hx; simp at hx
      | cons y r ih=>
        intro l hl hr i x hx
        have hy:=hl y (by simp)
        rw [List.flatten_cons] at hr
        have split:∀ (a b:List DV) (l:List CV),RepL ok σ l (a ++ b)→RepL ok σ (l.take a.length) a∧RepL ok σ (l.drop a.length) b:=by
          intro a
          induction a with
          | nil=>intro b l h; exact ⟨.nil,h⟩
          | cons d a ih=>
            intro b l h
            cases h with
            | cons h t=>obtain ⟨h1,h2⟩:=ih b _ t; exact ⟨.cons h h1,h2⟩
        obtain ⟨s1,s2⟩:=split y r.flatten l hr
        rw [hy] at s1 s2
        cases i with
        | zero=>
          simp at hx
          subst hx
          have hfit:sz + 1≤l.length:=by have:=s1.len; rw [List.length_take,hy] at this; omega
          exact ⟨l.take (sz + 1),by rw [Nat.zero_mul,dropN_zero,Vb _ _ hfit],s1⟩
        | succ i=>
          obtain ⟨cs,c1,c2⟩:=ih (l.drop (sz + 1)) (fun z hz=>hl z (by simp [hz])) s2 i x (by simpa using hx)
          refine ⟨cs,?_,c2⟩
          rw [← c1,Y9,Y9,List.drop_drop]
          congr 2
          rw [Nat.add_mul]; omega
    exact hsl es l hl hr i x hx
end Go.Run
namespace Go.Run
variable {cx:Cx} {σ:St}
theorem over_nil {α:Type} (l:List α):J7 0 [] l = some l:=by cases l <;> rfl
theorem Ji {α:Type}:∀ (v b c:List α),v.length = b.length→J7 0 v (b ++ c) = some (v ++ c)
  | [],[],c,_=>over_nil c
  | x :: v,y :: b,c,h=>by
    show (match J7 0 v (b ++ c) with | some r=>some (x :: r) | none=>none) = _
    rw [Ji v b c (by simpa using h)]; rfl
  | [],_ :: _,_,h=>by simp at h
  | _ :: _,[],_,h=>by simp at h
theorem over_app {α:Type}:∀ (a v b c:List α),v.length = b.length→J7 a.length v (a ++ (b ++ c)) = some (a ++ (v ++ c))
  | [],v,b,c,h=>Ji v b c h
  | x :: a,v,b,c,h=>by
    show (match J7 a.length v (a ++ (b ++ c)) with | some r=>some (x :: r) | none=>none) = _
    rw [over_app a v b c h]; rfl
theorem o_from {t e sz b o n i:Nat} (hu:und cx t = some (.slice e)) (hs:size cx e = some (sz + 1)) (hi:i≤n):slcO cx t (.one (.slice (some (b,o)) n (.to (sz + 1)))) (some (I (i:Nat))) none none σ = .val (.one (.slice (some (b,o + i * (sz + 1))) (n - i) (.to (sz + 1)))):=by
  show sliceF cx t (.one (.slice (some (b,o)) n (.to (sz + 1)))) (some (I (i:Nat))) none none σ = _
  unfold sliceF
  simp only [hu,hs]
  show sliceTwo (b,o) n (.to (sz + 1)) (sz + 1) (some i) (some n) σ = _
  unfold sliceTwo
  have h1:Nat.ble i n = true:=Nat.ble_eq_true_of_le hi
  have h2:Nat.ble n n = true:=Nat.ble_eq_true_of_le (Nat.le_refl _)
  simp only [h1,h2,cond_true,Nat.beq_refl]
  rfl
theorem o_upto {t e sz b o n i:Nat} (hu:und cx t = some (.slice e)) (hs:size cx e = some (sz + 1)) (hi:i≤n):slcO cx t (.one (.slice (some (b,o)) n (.to (sz + 1)))) none (some (I (i:Nat))) none σ = .val (.one (.slice (some (b,o + 0 * (sz + 1))) (i - 0) (.to (sz + 1)))):=by
  show sliceF cx t (.one (.slice (some (b,o)) n (.to (sz + 1)))) none (some (I (i:Nat))) none σ = _
  unfold sliceF
  simp only [hu,hs]
  show sliceTwo (b,o) n (.to (sz + 1)) (sz + 1) (some 0) (some i) σ = _
  unfold sliceTwo
  have h1:Nat.ble 0 i = true:=Nat.ble_eq_true_of_le (Nat.zero_le _)
  have h2:Nat.ble i n = true:=Nat.ble_eq_true_of_le hi
  simp only [h1,h2,cond_true,Nat.beq_refl]
  rfl
theorem o_copy {t e sz b o n b2 o2 n2 m:Nat} {ts:List TypeId} {c c2:Cap} {blk2:Blk} {l l2 l' cs:List CV} {e1:TypeId} {x:Bool} (hu:und cx t = some (.slice e)) (hs:size cx e = some (sz + 1)) (hm:m = min n n2) (hm0:m ≠ 0)
    (hg2:σ.get b2 = some blk2) (hr2:Blk.rd (some blk2) = some l2) (hc:Yo (m * (sz + 1)) (Vm o2 l2) = some cs) (hg:σ.get b = some (.cells l e1 x)) (ho:J7 o cs l = some l') :
    Qv cx .copy (t :: ts) [.one (.slice (some (b,o)) n c),.one (.slice (some (b2,o2)) n2 c2)] σ = .st (I (m:Nat)) (σ.put b (.cells l' e1 x)):=by
  show copyA cx (t :: ts) [.one (.slice (some (b,o)) n c),.one (.slice (some (b2,o2)) n2 c2)] σ = _
  unfold copyA
  simp only [hu,hs,lenA]
  have hmin:(bif Nat.ble n n2 then n else n2) = m:=by
    rcases Nat.le_total n n2 with h | h
    · rw [Nat.ble_eq_true_of_le h,hm,Nat.min_eq_left h]; rfl
    · rw [hm,Nat.min_eq_right h]
      rcases Nat.eq_or_lt_of_le h with h' | h'
      · rw [Nat.ble_eq_true_of_le (by omega),h']; rfl
      · have:Nat.ble n n2 = false:=by
          cases hb:Nat.ble n n2 with
          | false=>rfl
          | true=>have:=Nat.le_of_ble_eq_true hb; omega
        rw [this]; rfl
  rw [hmin]
  have hb0:Nat.beq m 0 = false:=by
    cases hb:Nat.beq m 0 with
    | false=>rfl
    | true=>exact absurd (Nat.eq_of_beq_eq_true hb) hm0
  have hf:firstA (sz + 1) m (.one (.slice (some (b2,o2)) n2 c2)) σ = some cs:=by
    show (bif Nat.beq m 0 then some [] else match Blk.rd (σ.get b2) with | some l=>Yo (Nat.mul m (sz + 1)) (Vm o2 l) | none=>none) = _
    rw [hb0,hg2,hr2]
    exact hc
  simp only [hf,hb0,cond_false]
  unfold Yy
  simp only [hg,ho]
  rfl
theorem o_cvi {s d:TypeId} {su:TypeDesc} {k:IntKind} {a:Nat} (hs:und cx s = some su) (hd:und cx d = some (.int .i64)) (h:a < 9223372036854775808):cvO cx s d (.one (.int k (a:Int))) σ = .val (I (a:Nat)):=by
  show convA cx s d (.one (.int k (a:Int))) σ = _
  unfold convA
  simp only [hs,hd]
  rw [Vo,Xw (by omega) (by omega)]; rfl
end Go.Run
