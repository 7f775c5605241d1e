/- The law BankNews, for every input. -/
import Derived.Test.YtjfgdcegpgoobaaGreatDoorRows
import Derived.Test.YtjfgdcegpgoobaaGreatDoorRowT
import Derived.Test.YtjfgdcegpgoobaaGreatDoorCards
import Derived.Test.YtjfgdcegpgoobaaGreatDoorTie
import Derived.Test.YtjfgdcegpgoobaaGreatDoorFactsCardBankNews
import Derived.Test.YtjfgdcegpgoobaaGreatDoorA5
import Derived.Test.YtjfgdcegpgoobaaGreatDoorFactsBankNews
import Derived.WalkKit
import Derived.ProofKit
import Derived.OpenShut
import Derived.ShutString
import Derived.ChangeOld
import Derived.Below
import Derived.SizedLaws
import Derived.LaidMore
import Derived.Lay
import Derived.Handed
import Derived.SevenTiedAt
set_option linter.unusedVariables false
namespace Go.Proofs.YtjfgdcegpgoobaaGreatDoor
open Go.ChangeShapes Go.WideShapes Go.ChangeAt Go.RowKit Go.Run
open Go.ChangeMaps (open_string shut_string)
set_option linter.unusedVariables false
theorem own:ownKnob Tryz.prog.godebug = none:=by kernel_rfl
theorem laidOut:laidOutB Tryz.prog = true:=pf1
theorem calls_of_yl {n f:Nat} {args:List AV} {vs:Array Value} {w:World} {σ:St} {π:Pl} (hR:R π σ w) (hO:∀ b,¬ Go.Run.own π σ b) (hr:RT π args vs.toList) (h:Yl (Ql (C 1000000) Core.TT n f args σ) (fun v _=>v = B true)) :
    Calls Tryz.prog f vs w fun e w'=>e = .returned (.bool true)∧Below w.heap.size w w':=by
  obtain ⟨v,σ',h,rfl⟩:=h
  have hc:=callK_ok (extOk 1000000) Aw.awT_ok mixed n f args σ _ σ' h π w vs hR (fun g=>by show RA _ .bad _; simp only [RA]) hr
  refine hc.2.mono fun e w' he=>?_
  obtain ⟨π',x,rfl,_,hx,hg⟩:=he
  unfold B at hx
  simp only [RA] at hx
  have hx':x = .bool true:=hx
  subst hx'
  exact ⟨rfl,hg.same.os,hg.same.tape,hg.same.output,hg.grow,fun b hb=>hg.frame b hb (hO b)⟩
theorem R0 (w:World):R (fun _=>none) σE w:=R_empty w
set_option maxRecDepth 100000 in
theorem bankNews_lifted (os:Os) (started:os.Started) (H:Type) (enc:TypeId × Value→H) :
    ReturnsInHanded {} Tryz.checked os 3 .any (fun w args=>(Rows.bankNewsSpec.pre enc Tryz.prog Tryz.f3 [] false w args∧laidMetH Tryz.prog Rows.bankNewsRow.laid w)∧sizedMet enc Tryz.prog Tryz.f3 (OpenSpec.ofChange Rows.bankNewsSpec) false w args)
      (Rows.bankNewsSpec.post enc Tryz.prog Tryz.f3 false true false false):=by
  refine returnsInHanded_of_change_and (C:=Tryz.checked) (X:=fun w _=>laidMetH Tryz.prog Rows.bankNewsRow.laid w) (fun _ _ _ hh h=>h.of_heap hh) own started (by kernel_rfl) Tryz.func3
    (ChangeSpec.witness_at (enc:=enc) (C:=Tryz.checked) (os:=os) (X:=fun w _=>laidMetH Tryz.prog Rows.bankNewsRow.laid w) false (World.laidAll Tryz.prog os Rows.bankNewsRow.laid) #[.agg #[.int .u64 0,.int .i64 0,.int .i64 0,.int .i64 0,.int .i64 0,.int .i64 0,.int .i64 0,.int .i64 0,.int .i64 0,.int .i64 0,.int .i64 0,.int .i64 0,.int .i64 0,.int .i64 0,.int .i64 0,.int .i64 0,.int .i64 0,.int .i64 0]] 8 (World.laidAll_os _ _ _) (by kernel_rfl) (by kernel_rfl) (by kernel_rfl) (by kernel_rfl) (by kernel_rfl)
      (by rw [MakeChecks.laidMetH_plain _ _ _ (by kernel_rfl)]; exact laidMet_laidAll _ (by kernel_rfl) (by kernel_rfl))) ?_
  intro W base args ds gs before hval0 hW _ _ _ _
  have hval:∀ (j:Nat) t v,Tryz.f3.params[j]? = some t→args[j]? = some v→Value.okWide Tryz.prog W .any base t v:=hval0
  have hW':=hW
  obtain ⟨p,q,hA0,hV,rfl,hfz,hnd⟩:=hW
  have hA:DataW.TrodAll enc Tryz.prog W 0 (fun _=>true) true Tryz.f3.params.toList args.toList ds p:=hA0
  rw [Tryz.params3] at hA hval
  obtain ⟨v0,vs0,d0,ds0,p0,q0,hargs,rfl,rfl,h0,r0⟩:=trodAll_cons hA
  obtain ⟨rfl,rfl,rfl⟩:=trodAll_nil r0
  obtain rfl:args = #[v0]:=by cases args; simp_all
  obtain ⟨rfl,rfl⟩:=trodVars_none hV
  have k0:=h0
  have lt0:∀ x ∈ p0,x.block < W.heap.size:=by obtain ⟨m,hm⟩:=k0; exact DataW.trod_lt m _ _ _ hm
  obtain ⟨c0,y0,n0,hv0,hd0,hf0⟩:=RowT.open_aggN Tryz.underlying24 (by kernel_rfl) (by kernel_rfl) (hval 0 24 v0 rfl rfl) h0
  obtain ⟨a0_0,e0_0,g0_0,w0_0⟩:=RowT.fld_int Tryz.underlying22 (hf0 0 _ rfl)
  obtain ⟨a0_1,e0_1,g0_1,w0_1⟩:=RowT.fld_int Tryz.underlying3 (hf0 1 _ rfl)
  obtain ⟨a0_2,e0_2,g0_2,w0_2⟩:=RowT.fld_int Tryz.underlying3 (hf0 2 _ rfl)
  obtain ⟨a0_3,e0_3,g0_3,w0_3⟩:=RowT.fld_int Tryz.underlying3 (hf0 3 _ rfl)
  obtain ⟨a0_4,e0_4,g0_4,w0_4⟩:=RowT.fld_int Tryz.underlying3 (hf0 4 _ rfl)
  obtain ⟨a0_5,e0_5,g0_5,w0_5⟩:=RowT.fld_int Tryz.underlying3 (hf0 5 _ rfl)
  obtain ⟨a0_6,e0_6,g0_6,w0_6⟩:=RowT.fld_int Tryz.underlying3 (hf0 6 _ rfl)
  obtain ⟨a0_7,e0_7,g0_7,w0_7⟩:=RowT.fld_int Tryz.underlying3 (hf0 7 _ rfl)
  obtain ⟨a0_8,e0_8,g0_8,w0_8⟩:=RowT.fld_int Tryz.underlying3 (hf0 8 _ rfl)
  obtain ⟨a0_9,e0_9,g0_9,w0_9⟩:=RowT.fld_int Tryz.underlying3 (hf0 9 _ rfl)
  obtain ⟨a0_10,e0_10,g0_10,w0_10⟩:=RowT.fld_int Tryz.underlying3 (hf0 10 _ rfl)
  obtain ⟨a0_11,e0_11,g0_11,w0_11⟩:=RowT.fld_int Tryz.underlying3 (hf0 11 _ rfl)
  obtain ⟨a0_12,e0_12,g0_12,w0_12⟩:=RowT.fld_int Tryz.underlying3 (hf0 12 _ rfl)
  obtain ⟨a0_13,e0_13,g0_13,w0_13⟩:=RowT.fld_int Tryz.underlying3 (hf0 13 _ rfl)
  obtain ⟨a0_14,e0_14,g0_14,w0_14⟩:=RowT.fld_int Tryz.underlying3 (hf0 14 _ rfl)
  obtain ⟨a0_15,e0_15,g0_15,w0_15⟩:=RowT.fld_int Tryz.underlying3 (hf0 15 _ rfl)
  obtain ⟨a0_16,e0_16,g0_16,w0_16⟩:=RowT.fld_int Tryz.underlying3 (hf0 16 _ rfl)
  obtain ⟨a0_17,e0_17,g0_17,w0_17⟩:=RowT.fld_int Tryz.underlying3 (hf0 17 _ rfl)
  have hx0:v0 = .agg #[.int .u64 a0_0,.int .i64 a0_1,.int .i64 a0_2,.int .i64 a0_3,.int .i64 a0_4,.int .i64 a0_5,.int .i64 a0_6,.int .i64 a0_7,.int .i64 a0_8,.int .i64 a0_9,.int .i64 a0_10,.int .i64 a0_11,.int .i64 a0_12,.int .i64 a0_13,.int .i64 a0_14,.int .i64 a0_15,.int .i64 a0_16,.int .i64 a0_17]:=by
    rw [hv0]
    show Value.agg #[c0 0,c0 1,c0 2,c0 3,c0 4,c0 5,c0 6,c0 7,c0 8,c0 9,c0 10,c0 11,c0 12,c0 13,c0 14,c0 15,c0 16,c0 17] = _
    rw [e0_0,e0_1,e0_2,e0_3,e0_4,e0_5,e0_6,e0_7,e0_8,e0_9,e0_10,e0_11,e0_12,e0_13,e0_14,e0_15,e0_16,e0_17]
  clear hv0
  subst hx0
  refine (calls_of_yl (w:=W) (R0 W) (fun b ⟨i,blk,x,hb,_⟩=>by cases hb) (vs:=#[.agg #[.int .u64 a0_0,.int .i64 a0_1,.int .i64 a0_2,.int .i64 a0_3,.int .i64 a0_4,.int .i64 a0_5,.int .i64 a0_6,.int .i64 a0_7,.int .i64 a0_8,.int .i64 a0_9,.int .i64 a0_10,.int .i64 a0_11,.int .i64 a0_12,.int .i64 a0_13,.int .i64 a0_14,.int .i64 a0_15,.int .i64 a0_16,.int .i64 a0_17]]) (by simp only [RT,RA,I,Iu]; exact ⟨⟨_,rfl,rfl,rfl,rfl,rfl,rfl,rfl,rfl,rfl,rfl,rfl,rfl,rfl,rfl,rfl,rfl,rfl,rfl,rfl,trivial⟩,trivial⟩) (Core.law_run (by have hw:=w0_0; simp only [Lit.wf,Bool.and_eq_true,decide_eq_true_eq] at hw; simp [IntKind.min,IntKind.max,IntKind.signed,IntKind.bits] at hw; omega))).mono ?_
  rintro e W' ⟨rfl,bel⟩
  exact ⟨_,rfl,_,_,_,[],_,[],hW',trodAll_mk1 (shut_bool Tryz.underlying4 _),(trodAll_cons_mk (Below.trod laidOut (by kernel_rfl) (of_decide_eq_true (by kernel_rfl)) k0 bel lt0) trodAll_mk0),rfl,bel.frame _,fun h=>by cases h⟩
theorem bankNews_row:Rows.BankNewsSaid:=
  OpenClaim.holds_of_wide 3 Tryz.f3 rfl rfl rfl rfl rfl rfl rfl ⟨rfl,rfl,rfl,rfl,rfl⟩ rfl rfl rfl rfl rfl (by kernel_rfl) Tryz.func3 bankNews_facts bankNews_instance bankNews_wrapper
    (fun os started H enc _=>bankNews_lifted os started H enc)
theorem bankNews_holds:Rows.BankNewsCardSaid:=
  Claim7.holds_tied_plain_at .later [] [.data] true (true, "4bdff03543ffa5435a67fe436c346679664a7d0c45b5a8d75a144d08a5c2fa90") false
    bankNews_row (fun _ h=>by cases h) bankNews_c1 (fun _ h=>by cases h) bankNews_row_tie rfl ⟨rfl,rfl⟩ bankNews_c2 rfl
    (fun f fn hf hfn=>by
      obtain rfl:f = 3:=Option.some.inj (bankNews_c3.symm.trans hf) |>.symm
      obtain rfl:fn = Tryz.f3:=(Option.some.inj (Tryz.func3.symm.trans hfn)).symm
      exact ⟨bankNews_c4,fun j t ht=>by
        rw [Tryz.params3] at ht
        have hm:t ∈ [24]:=by simpa using Array.mem_of_getElem? ht
        exact (show Tryz.prog.wantsStandIn t = false by simpa using List.all_eq_true.1 bankNews_c5 t hm)⟩)
    bankNews_c6
#print axioms bankNews_holds
end Go.Proofs.YtjfgdcegpgoobaaGreatDoor
