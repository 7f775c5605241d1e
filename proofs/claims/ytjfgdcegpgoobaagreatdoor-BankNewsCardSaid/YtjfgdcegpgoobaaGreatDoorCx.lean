/- The setting of the interpreter for this program: which functions the model gives. -/
import Derived.Test.YtjfgdcegpgoobaaGreatDoorProg
import Derived.Test.YtjfgdcegpgoobaaGreatDoorR3
import Derived.KernelRfl
set_option linter.unusedVariables false
namespace Go.Proofs.YtjfgdcegpgoobaaGreatDoor
open Go.Run
def assocN:List (Nat × Ext)→Nat→Option Ext
  | [],_=>none
  | p :: r,f=>bif Nat.beq f p.1 then some p.2 else assocN r f
theorem assocN_mem:∀ (l:List (Nat × Ext)) (f:Nat) (e:Ext),assocN l f = some e→(f,e) ∈ l
  | p :: r,f,e,h=>by
    unfold assocN at h
    cases hb:Nat.beq f p.1 with
    | true=>
      rw [hb] at h
      cases h
      have:=Nat.eq_of_beq_eq_true hb
      subst this
      exact List.mem_cons_self ..
    | false=>rw [hb] at h; exact List.mem_cons_of_mem _ (assocN_mem r f e h)
def extList:List (Nat × Ext):=[(165,.same),(229,.cmp)]
theorem Tq {α:Sort _} {a c:α} (b:α) (h:a = b) (h2:b = c):a = c:=h.trans h2
def a0 (f:Kt):TE→Kt:=fun _=>f
def a1 (f:AV→Kt) (i0:Nat):TE→Kt:=fun e=>f (e i0)
def a2 (f:AV→AV→Kt) (i0 i1:Nat):TE→Kt:=fun e=>f (e i0) (e i1)
def a3 (f:AV→AV→AV→Kt) (i0 i1 i2:Nat):TE→Kt:=fun e=>f (e i0) (e i1) (e i2)
def a4 (f:AV→AV→AV→AV→Kt) (i0 i1 i2 i3:Nat):TE→Kt:=fun e=>f (e i0) (e i1) (e i2) (e i3)
def a5 (f:AV→AV→AV→AV→AV→Kt) (i0 i1 i2 i3 i4:Nat):TE→Kt:=fun e=>f (e i0) (e i1) (e i2) (e i3) (e i4)
def a6 (f:AV→AV→AV→AV→AV→AV→Kt) (i0 i1 i2 i3 i4 i5:Nat):TE→Kt:=fun e=>f (e i0) (e i1) (e i2) (e i3) (e i4) (e i5)
def a7 (f:AV→AV→AV→AV→AV→AV→AV→Kt) (i0 i1 i2 i3 i4 i5 i6:Nat):TE→Kt:=fun e=>f (e i0) (e i1) (e i2) (e i3) (e i4) (e i5) (e i6)
def a8 (f:AV→AV→AV→AV→AV→AV→AV→AV→Kt) (i0 i1 i2 i3 i4 i5 i6 i7:Nat):TE→Kt:=fun e=>f (e i0) (e i1) (e i2) (e i3) (e i4) (e i5) (e i6) (e i7)
def a9 (f:AV→AV→AV→AV→AV→AV→AV→AV→AV→Kt) (i0 i1 i2 i3 i4 i5 i6 i7 i8:Nat):TE→Kt:=fun e=>f (e i0) (e i1) (e i2) (e i3) (e i4) (e i5) (e i6) (e i7) (e i8)
def a10 (f:AV→AV→AV→AV→AV→AV→AV→AV→AV→AV→Kt) (i0 i1 i2 i3 i4 i5 i6 i7 i8 i9:Nat):TE→Kt:=fun e=>f (e i0) (e i1) (e i2) (e i3) (e i4) (e i5) (e i6) (e i7) (e i8) (e i9)
def a11 (f:AV→AV→AV→AV→AV→AV→AV→AV→AV→AV→AV→Kt) (i0 i1 i2 i3 i4 i5 i6 i7 i8 i9 i10:Nat):TE→Kt:=fun e=>f (e i0) (e i1) (e i2) (e i3) (e i4) (e i5) (e i6) (e i7) (e i8) (e i9) (e i10)
noncomputable def nx:Nat→(Nat→AV)→Kt:=fun _ _=>noK
noncomputable def C (m:Nat):Cx:={ P:=Tryz.prog,ext:=assocN extList,fuel:=m,g:=.leaf }
def awS (args:List AV) (σ:St):Option (AV × St):=match args with
  | []=>some (.one (.bool true),σ)
  | _=>none
def tab:Tab:=fun f=>bif Nat.beq f 8 then some awS else none
theorem given165:Given Tryz.prog 165 (.same):=⟨_,Tryz.func165,by kernel_rfl,by kernel_rfl,by kernel_rfl,by kernel_rfl⟩
theorem given229:Given Tryz.prog 229 (.cmp):=⟨_,Tryz.func229,by kernel_rfl,by kernel_rfl,by kernel_rfl,by kernel_rfl⟩
theorem names : (Tryz.prog.funcs.toList.all fun fn => !(fn.name == "runtime.NumGoroutine")) = true := by kernel_rfl
theorem mixed:Tryz.prog.follows .mixedOrders = true:=by kernel_rfl
theorem nameOk (f : FuncId) (fn : Func) (h : Tryz.prog.funcs[f]? = some fn) : (fn.name == "runtime.NumGoroutine") = false := by
  have:=List.all_eq_true.1 names fn (Array.mem_toList_iff.2 (Array.mem_of_getElem? h))
  simpa using this
theorem extOk (m:Nat):ExtOk (C m) where
  ext f e h:=by
    have h':=assocN_mem _ _ _ h
    simp only [extList,List.mem_cons,Prod.mk.injEq,List.not_mem_nil,or_false] at h'
    rcases h' with ⟨rfl,rfl⟩ | ⟨rfl,rfl⟩
    · exact given165
    · exact given229
  name:=nameOk
end Go.Proofs.YtjfgdcegpgoobaaGreatDoor
namespace Go.Proofs.YtjfgdcegpgoobaaGreatDoor
open Go.Run Go
set_option maxRecDepth 100000
namespace Ty
variable {m:Nat} {σ:St}
theorem un3:und (C m) 3 = some (.int .i64):=by kernel_rfl
theorem ag3:Go.Run.isAgg (C m) 3 = some false:=by kernel_rfl
theorem sz3:size (C m) 3 = some 1:=by kernel_rfl
theorem in3:((C m).P.info? 3).map (fun t=>(t.size,t.bytes)) = some (1,8):=by kernel_rfl
theorem ag4:Go.Run.isAgg (C m) 4 = some false:=by kernel_rfl
theorem sz4:size (C m) 4 = some 1:=by kernel_rfl
theorem in4:((C m).P.info? 4).map (fun t=>(t.size,t.bytes)) = some (1,1):=by kernel_rfl
theorem un5:und (C m) 5 = some (.int .u8):=by kernel_rfl
theorem un9:und (C m) 9 = some .string:=by kernel_rfl
theorem ag9:Go.Run.isAgg (C m) 9 = some false:=by kernel_rfl
theorem un22:und (C m) 22 = some (.int .u64):=by kernel_rfl
theorem Zf:Go.Run.isAgg (C m) 22 = some false:=by kernel_rfl
theorem ag24:Go.Run.isAgg (C m) 24 = some true:=by kernel_rfl
theorem sz24:size (C m) 24 = some 18:=by kernel_rfl
theorem fa24_0 {i o:Nat}:Qh (C m) 24 (P i o) 0 σ = .val (P i (o + 0)):=by kernel_rfl
theorem fa24_1 {i o:Nat}:Qh (C m) 24 (P i o) 1 σ = .val (P i (o + 1)):=by kernel_rfl
theorem fa24_2 {i o:Nat}:Qh (C m) 24 (P i o) 2 σ = .val (P i (o + 2)):=by kernel_rfl
theorem fa24_3 {i o:Nat}:Qh (C m) 24 (P i o) 3 σ = .val (P i (o + 3)):=by kernel_rfl
theorem fa24_4 {i o:Nat}:Qh (C m) 24 (P i o) 4 σ = .val (P i (o + 4)):=by kernel_rfl
theorem fa24_5 {i o:Nat}:Qh (C m) 24 (P i o) 5 σ = .val (P i (o + 5)):=by kernel_rfl
theorem fa24_6 {i o:Nat}:Qh (C m) 24 (P i o) 6 σ = .val (P i (o + 6)):=by kernel_rfl
theorem fa24_7 {i o:Nat}:Qh (C m) 24 (P i o) 7 σ = .val (P i (o + 7)):=by kernel_rfl
theorem fa24_8 {i o:Nat}:Qh (C m) 24 (P i o) 8 σ = .val (P i (o + 8)):=by kernel_rfl
theorem fa24_9 {i o:Nat}:Qh (C m) 24 (P i o) 9 σ = .val (P i (o + 9)):=by kernel_rfl
theorem fa24_10 {i o:Nat}:Qh (C m) 24 (P i o) 10 σ = .val (P i (o + 10)):=by kernel_rfl
theorem fa24_11 {i o:Nat}:Qh (C m) 24 (P i o) 11 σ = .val (P i (o + 11)):=by kernel_rfl
theorem fa24_12 {i o:Nat}:Qh (C m) 24 (P i o) 12 σ = .val (P i (o + 12)):=by kernel_rfl
theorem fa24_13 {i o:Nat}:Qh (C m) 24 (P i o) 13 σ = .val (P i (o + 13)):=by kernel_rfl
theorem fa24_14 {i o:Nat}:Qh (C m) 24 (P i o) 14 σ = .val (P i (o + 14)):=by kernel_rfl
theorem fa24_15 {i o:Nat}:Qh (C m) 24 (P i o) 15 σ = .val (P i (o + 15)):=by kernel_rfl
theorem fa24_16 {i o:Nat}:Qh (C m) 24 (P i o) 16 σ = .val (P i (o + 16)):=by kernel_rfl
theorem fa24_17 {i o:Nat}:Qh (C m) 24 (P i o) 17 σ = .val (P i (o + 17)):=by kernel_rfl
theorem Vj:und (C m) 25 = some (.slice 3):=by kernel_rfl
theorem Ng:Go.Run.isAgg (C m) 25 = some false:=by kernel_rfl
theorem sz25:size (C m) 25 = some 1:=by kernel_rfl
theorem in25:((C m).P.info? 25).map (fun t=>(t.size,t.bytes)) = some (1,24):=by kernel_rfl
theorem un26:und (C m) 26 = some (.slice 87):=by kernel_rfl
theorem ag26:Go.Run.isAgg (C m) 26 = some false:=by kernel_rfl
theorem Jj:und (C m) 27 = some (.slice 25):=by kernel_rfl
theorem ag27:Go.Run.isAgg (C m) 27 = some false:=by kernel_rfl
theorem sz27:size (C m) 27 = some 1:=by kernel_rfl
theorem ag29:Go.Run.isAgg (C m) 29 = some true:=by kernel_rfl
theorem sz29:size (C m) 29 = some 3:=by kernel_rfl
theorem fa29_0 {i o:Nat}:Qh (C m) 29 (P i o) 0 σ = .val (P i (o + 0)):=by kernel_rfl
theorem fa29_1 {i o:Nat}:Qh (C m) 29 (P i o) 1 σ = .val (P i (o + 1)):=by kernel_rfl
theorem fa29_2 {i o:Nat}:Qh (C m) 29 (P i o) 2 σ = .val (P i (o + 2)):=by kernel_rfl
theorem ag31:Go.Run.isAgg (C m) 31 = some true:=by kernel_rfl
theorem sz31:size (C m) 31 = some 7:=by kernel_rfl
theorem fa31_0 {i o:Nat}:Qh (C m) 31 (P i o) 0 σ = .val (P i (o + 0)):=by kernel_rfl
theorem fa31_1 {i o:Nat}:Qh (C m) 31 (P i o) 1 σ = .val (P i (o + 1)):=by kernel_rfl
theorem fa31_2 {i o:Nat}:Qh (C m) 31 (P i o) 2 σ = .val (P i (o + 2)):=by kernel_rfl
theorem fa31_3 {i o:Nat}:Qh (C m) 31 (P i o) 3 σ = .val (P i (o + 3)):=by kernel_rfl
theorem fa31_4 {i o:Nat}:Qh (C m) 31 (P i o) 4 σ = .val (P i (o + 4)):=by kernel_rfl
theorem un32:und (C m) 32 = some (.slice 4):=by kernel_rfl
theorem ag32:Go.Run.isAgg (C m) 32 = some false:=by kernel_rfl
theorem sz32:size (C m) 32 = some 1:=by kernel_rfl
theorem in32:((C m).P.info? 32).map (fun t=>(t.size,t.bytes)) = some (1,24):=by kernel_rfl
theorem ag34:Go.Run.isAgg (C m) 34 = some true:=by kernel_rfl
theorem sz34:size (C m) 34 = some 3:=by kernel_rfl
theorem fa34_0 {i o:Nat}:Qh (C m) 34 (P i o) 0 σ = .val (P i (o + 0)):=by kernel_rfl
theorem fa34_1 {i o:Nat}:Qh (C m) 34 (P i o) 1 σ = .val (P i (o + 1)):=by kernel_rfl
theorem fa34_2 {i o:Nat}:Qh (C m) 34 (P i o) 2 σ = .val (P i (o + 2)):=by kernel_rfl
theorem un35:und (C m) 35 = some (.slice 94):=by kernel_rfl
theorem ag35:Go.Run.isAgg (C m) 35 = some false:=by kernel_rfl
theorem sz35:size (C m) 35 = some 1:=by kernel_rfl
theorem ag37:Go.Run.isAgg (C m) 37 = some true:=by kernel_rfl
theorem sz37:size (C m) 37 = some 5:=by kernel_rfl
theorem fa37_0 {i o:Nat}:Qh (C m) 37 (P i o) 0 σ = .val (P i (o + 0)):=by kernel_rfl
theorem fa37_1 {i o:Nat}:Qh (C m) 37 (P i o) 1 σ = .val (P i (o + 1)):=by kernel_rfl
theorem fa37_2 {i o:Nat}:Qh (C m) 37 (P i o) 2 σ = .val (P i (o + 4)):=by kernel_rfl
theorem un38:und (C m) 38 = some (.slice 103):=by kernel_rfl
theorem ag38:Go.Run.isAgg (C m) 38 = some false:=by kernel_rfl
theorem sz38:size (C m) 38 = some 1:=by kernel_rfl
theorem ag40:Go.Run.isAgg (C m) 40 = some true:=by kernel_rfl
theorem sz40:size (C m) 40 = some 3:=by kernel_rfl
theorem fa40_0 {i o:Nat}:Qh (C m) 40 (P i o) 0 σ = .val (P i (o + 0)):=by kernel_rfl
theorem fa40_1 {i o:Nat}:Qh (C m) 40 (P i o) 1 σ = .val (P i (o + 1)):=by kernel_rfl
theorem fa40_2 {i o:Nat}:Qh (C m) 40 (P i o) 2 σ = .val (P i (o + 2)):=by kernel_rfl
theorem un41:und (C m) 41 = some (.slice 111):=by kernel_rfl
theorem ag41:Go.Run.isAgg (C m) 41 = some false:=by kernel_rfl
theorem sz41:size (C m) 41 = some 1:=by kernel_rfl
theorem ag43:Go.Run.isAgg (C m) 43 = some true:=by kernel_rfl
theorem sz43:size (C m) 43 = some 2:=by kernel_rfl
theorem fa43_0 {i o:Nat}:Qh (C m) 43 (P i o) 0 σ = .val (P i (o + 0)):=by kernel_rfl
theorem Ws {i o:Nat}:Qh (C m) 43 (P i o) 1 σ = .val (P i (o + 1)):=by kernel_rfl
theorem ag45:Go.Run.isAgg (C m) 45 = some true:=by kernel_rfl
theorem sz45:size (C m) 45 = some 38:=by kernel_rfl
theorem fa45_0 {i o:Nat}:Qh (C m) 45 (P i o) 0 σ = .val (P i (o + 0)):=by kernel_rfl
theorem fa45_1 {i o:Nat}:Qh (C m) 45 (P i o) 1 σ = .val (P i (o + 18)):=by kernel_rfl
theorem fa45_2 {i o:Nat}:Qh (C m) 45 (P i o) 2 σ = .val (P i (o + 19)):=by kernel_rfl
theorem fa45_3 {i o:Nat}:Qh (C m) 45 (P i o) 3 σ = .val (P i (o + 20)):=by kernel_rfl
theorem fa45_4 {i o:Nat}:Qh (C m) 45 (P i o) 4 σ = .val (P i (o + 21)):=by kernel_rfl
theorem fa45_5 {i o:Nat}:Qh (C m) 45 (P i o) 5 σ = .val (P i (o + 28)):=by kernel_rfl
theorem fa45_6 {i o:Nat}:Qh (C m) 45 (P i o) 6 σ = .val (P i (o + 33)):=by kernel_rfl
theorem fa45_7 {i o:Nat}:Qh (C m) 45 (P i o) 7 σ = .val (P i (o + 36)):=by kernel_rfl
theorem un51:und (C m) 51 = some (.slice 90):=by kernel_rfl
theorem ag51:Go.Run.isAgg (C m) 51 = some false:=by kernel_rfl
theorem sz51:size (C m) 51 = some 1:=by kernel_rfl
theorem ag52:Go.Run.isAgg (C m) 52 = some true:=by kernel_rfl
theorem sz52:size (C m) 52 = some 3:=by kernel_rfl
theorem fa52_0 {i o:Nat}:Qh (C m) 52 (P i o) 0 σ = .val (P i (o + 0)):=by kernel_rfl
theorem fa52_1 {i o:Nat}:Qh (C m) 52 (P i o) 1 σ = .val (P i (o + 1)):=by kernel_rfl
theorem fa52_2 {i o:Nat}:Qh (C m) 52 (P i o) 2 σ = .val (P i (o + 2)):=by kernel_rfl
theorem ag54:Go.Run.isAgg (C m) 54 = some true:=by kernel_rfl
theorem sz54:size (C m) 54 = some 7:=by kernel_rfl
theorem fa54_0 {i o:Nat}:Qh (C m) 54 (P i o) 0 σ = .val (P i (o + 0)):=by kernel_rfl
theorem fa54_1 {i o:Nat}:Qh (C m) 54 (P i o) 1 σ = .val (P i (o + 1)):=by kernel_rfl
theorem fa54_2 {i o:Nat}:Qh (C m) 54 (P i o) 2 σ = .val (P i (o + 2)):=by kernel_rfl
theorem fa54_3 {i o:Nat}:Qh (C m) 54 (P i o) 3 σ = .val (P i (o + 3)):=by kernel_rfl
theorem fa54_4 {i o:Nat}:Qh (C m) 54 (P i o) 4 σ = .val (P i (o + 4)):=by kernel_rfl
theorem ag55:Go.Run.isAgg (C m) 55 = some true:=by kernel_rfl
theorem sz55:size (C m) 55 = some 3:=by kernel_rfl
theorem fa55_0 {i o:Nat}:Qh (C m) 55 (P i o) 0 σ = .val (P i (o + 0)):=by kernel_rfl
theorem fa55_1 {i o:Nat}:Qh (C m) 55 (P i o) 1 σ = .val (P i (o + 1)):=by kernel_rfl
theorem fa55_2 {i o:Nat}:Qh (C m) 55 (P i o) 2 σ = .val (P i (o + 2)):=by kernel_rfl
theorem un56:und (C m) 56 = some (.slice 95):=by kernel_rfl
theorem ag56:Go.Run.isAgg (C m) 56 = some false:=by kernel_rfl
theorem sz56:size (C m) 56 = some 1:=by kernel_rfl
theorem ag58:Go.Run.isAgg (C m) 58 = some true:=by kernel_rfl
theorem sz58:size (C m) 58 = some 5:=by kernel_rfl
theorem fa58_0 {i o:Nat}:Qh (C m) 58 (P i o) 0 σ = .val (P i (o + 0)):=by kernel_rfl
theorem fa58_1 {i o:Nat}:Qh (C m) 58 (P i o) 1 σ = .val (P i (o + 1)):=by kernel_rfl
theorem Nh {i o:Nat}:Qh (C m) 58 (P i o) 2 σ = .val (P i (o + 4)):=by kernel_rfl
theorem un59:und (C m) 59 = some (.slice 107):=by kernel_rfl
theorem ag59:Go.Run.isAgg (C m) 59 = some false:=by kernel_rfl
theorem sz59:size (C m) 59 = some 1:=by kernel_rfl
theorem ag61:Go.Run.isAgg (C m) 61 = some true:=by kernel_rfl
theorem sz61:size (C m) 61 = some 3:=by kernel_rfl
theorem fa61_0 {i o:Nat}:Qh (C m) 61 (P i o) 0 σ = .val (P i (o + 0)):=by kernel_rfl
theorem fa61_1 {i o:Nat}:Qh (C m) 61 (P i o) 1 σ = .val (P i (o + 1)):=by kernel_rfl
theorem fa61_2 {i o:Nat}:Qh (C m) 61 (P i o) 2 σ = .val (P i (o + 2)):=by kernel_rfl
theorem un62:und (C m) 62 = some (.slice 112):=by kernel_rfl
theorem ag62:Go.Run.isAgg (C m) 62 = some false:=by kernel_rfl
theorem sz62:size (C m) 62 = some 1:=by kernel_rfl
theorem ag64:Go.Run.isAgg (C m) 64 = some true:=by kernel_rfl
theorem sz64:size (C m) 64 = some 2:=by kernel_rfl
theorem fa64_0 {i o:Nat}:Qh (C m) 64 (P i o) 0 σ = .val (P i (o + 0)):=by kernel_rfl
theorem Ni {i o:Nat}:Qh (C m) 64 (P i o) 1 σ = .val (P i (o + 1)):=by kernel_rfl
theorem ag66:Go.Run.isAgg (C m) 66 = some true:=by kernel_rfl
theorem sz66:size (C m) 66 = some 38:=by kernel_rfl
theorem fa66_0 {i o:Nat}:Qh (C m) 66 (P i o) 0 σ = .val (P i (o + 0)):=by kernel_rfl
theorem fa66_1 {i o:Nat}:Qh (C m) 66 (P i o) 1 σ = .val (P i (o + 18)):=by kernel_rfl
theorem fa66_2 {i o:Nat}:Qh (C m) 66 (P i o) 2 σ = .val (P i (o + 19)):=by kernel_rfl
theorem fa66_3 {i o:Nat}:Qh (C m) 66 (P i o) 3 σ = .val (P i (o + 20)):=by kernel_rfl
theorem fa66_4 {i o:Nat}:Qh (C m) 66 (P i o) 4 σ = .val (P i (o + 21)):=by kernel_rfl
theorem fa66_5 {i o:Nat}:Qh (C m) 66 (P i o) 5 σ = .val (P i (o + 28)):=by kernel_rfl
theorem fa66_6 {i o:Nat}:Qh (C m) 66 (P i o) 6 σ = .val (P i (o + 33)):=by kernel_rfl
theorem fa66_7 {i o:Nat}:Qh (C m) 66 (P i o) 7 σ = .val (P i (o + 36)):=by kernel_rfl
theorem un85:und (C m) 85 = some (.slice 92):=by kernel_rfl
theorem ag85:Go.Run.isAgg (C m) 85 = some false:=by kernel_rfl
theorem ag87:Go.Run.isAgg (C m) 87 = some true:=by kernel_rfl
theorem sz87:size (C m) 87 = some 2:=by kernel_rfl
theorem in87:((C m).P.info? 87).map (fun t=>(t.size,t.bytes)) = some (2,32):=by kernel_rfl
theorem fa87_0 {i o:Nat}:Qh (C m) 87 (P i o) 0 σ = .val (P i (o + 0)):=by kernel_rfl
theorem fa87_1 {i o:Nat}:Qh (C m) 87 (P i o) 1 σ = .val (P i (o + 1)):=by kernel_rfl
theorem un88:und (C m) 88 = some (.slice 93):=by kernel_rfl
theorem ag88:Go.Run.isAgg (C m) 88 = some false:=by kernel_rfl
theorem sz88:size (C m) 88 = some 1:=by kernel_rfl
theorem ag90:Go.Run.isAgg (C m) 90 = some true:=by kernel_rfl
theorem sz90:size (C m) 90 = some 2:=by kernel_rfl
theorem in90:((C m).P.info? 90).map (fun t=>(t.size,t.bytes)) = some (2,32):=by kernel_rfl
theorem fa90_0 {i o:Nat}:Qh (C m) 90 (P i o) 0 σ = .val (P i (o + 0)):=by kernel_rfl
theorem fa90_1 {i o:Nat}:Qh (C m) 90 (P i o) 1 σ = .val (P i (o + 1)):=by kernel_rfl
theorem ag92:Go.Run.isAgg (C m) 92 = some true:=by kernel_rfl
theorem sz92:size (C m) 92 = some 3:=by kernel_rfl
theorem ag93:Go.Run.isAgg (C m) 93 = some true:=by kernel_rfl
theorem sz93:size (C m) 93 = some 3:=by kernel_rfl
theorem in93:((C m).P.info? 93).map (fun t=>(t.size,t.bytes)) = some (3,32):=by kernel_rfl
theorem un94:und (C m) 94 = some (.slice 97):=by kernel_rfl
theorem ag94:Go.Run.isAgg (C m) 94 = some false:=by kernel_rfl
theorem sz94:size (C m) 94 = some 1:=by kernel_rfl
theorem in94:((C m).P.info? 94).map (fun t=>(t.size,t.bytes)) = some (1,24):=by kernel_rfl
theorem un95:und (C m) 95 = some (.slice 98):=by kernel_rfl
theorem ag95:Go.Run.isAgg (C m) 95 = some false:=by kernel_rfl
theorem sz95:size (C m) 95 = some 1:=by kernel_rfl
theorem in95:((C m).P.info? 95).map (fun t=>(t.size,t.bytes)) = some (1,24):=by kernel_rfl
theorem ag97:Go.Run.isAgg (C m) 97 = some true:=by kernel_rfl
theorem sz97:size (C m) 97 = some 4:=by kernel_rfl
theorem in97:((C m).P.info? 97).map (fun t=>(t.size,t.bytes)) = some (4,40):=by kernel_rfl
theorem fa97_0 {i o:Nat}:Qh (C m) 97 (P i o) 0 σ = .val (P i (o + 0)):=by kernel_rfl
theorem fa97_1 {i o:Nat}:Qh (C m) 97 (P i o) 1 σ = .val (P i (o + 1)):=by kernel_rfl
theorem fa97_2 {i o:Nat}:Qh (C m) 97 (P i o) 2 σ = .val (P i (o + 2)):=by kernel_rfl
theorem fa97_3 {i o:Nat}:Qh (C m) 97 (P i o) 3 σ = .val (P i (o + 3)):=by kernel_rfl
theorem ag98:Go.Run.isAgg (C m) 98 = some true:=by kernel_rfl
theorem sz98:size (C m) 98 = some 4:=by kernel_rfl
theorem in98:((C m).P.info? 98).map (fun t=>(t.size,t.bytes)) = some (4,40):=by kernel_rfl
theorem ag100:Go.Run.isAgg (C m) 100 = some true:=by kernel_rfl
theorem sz100:size (C m) 100 = some 2:=by kernel_rfl
theorem fa100_0 {i o:Nat}:Qh (C m) 100 (P i o) 0 σ = .val (P i (o + 0)):=by kernel_rfl
theorem Ja {i o:Nat}:Qh (C m) 100 (P i o) 1 σ = .val (P i (o + 1)):=by kernel_rfl
theorem un101:und (C m) 101 = some (.slice 109):=by kernel_rfl
theorem ag101:Go.Run.isAgg (C m) 101 = some false:=by kernel_rfl
theorem ag103:Go.Run.isAgg (C m) 103 = some true:=by kernel_rfl
theorem sz103:size (C m) 103 = some 3:=by kernel_rfl
theorem in103:((C m).P.info? 103).map (fun t=>(t.size,t.bytes)) = some (3,56):=by kernel_rfl
theorem fa103_0 {i o:Nat}:Qh (C m) 103 (P i o) 0 σ = .val (P i (o + 0)):=by kernel_rfl
theorem fa103_1 {i o:Nat}:Qh (C m) 103 (P i o) 1 σ = .val (P i (o + 2)):=by kernel_rfl
theorem ag104:Go.Run.isAgg (C m) 104 = some true:=by kernel_rfl
theorem sz104:size (C m) 104 = some 2:=by kernel_rfl
theorem fa104_0 {i o:Nat}:Qh (C m) 104 (P i o) 0 σ = .val (P i (o + 0)):=by kernel_rfl
theorem fa104_1 {i o:Nat}:Qh (C m) 104 (P i o) 1 σ = .val (P i (o + 1)):=by kernel_rfl
theorem un105:und (C m) 105 = some (.slice 110):=by kernel_rfl
theorem ag105:Go.Run.isAgg (C m) 105 = some false:=by kernel_rfl
theorem sz105:size (C m) 105 = some 1:=by kernel_rfl
theorem ag107:Go.Run.isAgg (C m) 107 = some true:=by kernel_rfl
theorem sz107:size (C m) 107 = some 3:=by kernel_rfl
theorem in107:((C m).P.info? 107).map (fun t=>(t.size,t.bytes)) = some (3,56):=by kernel_rfl
theorem fa107_0 {i o:Nat}:Qh (C m) 107 (P i o) 0 σ = .val (P i (o + 0)):=by kernel_rfl
theorem fa107_1 {i o:Nat}:Qh (C m) 107 (P i o) 1 σ = .val (P i (o + 2)):=by kernel_rfl
theorem ag109:Go.Run.isAgg (C m) 109 = some true:=by kernel_rfl
theorem sz109:size (C m) 109 = some 2:=by kernel_rfl
theorem ag110:Go.Run.isAgg (C m) 110 = some true:=by kernel_rfl
theorem sz110:size (C m) 110 = some 2:=by kernel_rfl
theorem in110:((C m).P.info? 110).map (fun t=>(t.size,t.bytes)) = some (2,24):=by kernel_rfl
theorem un111:und (C m) 111 = some (.slice 117):=by kernel_rfl
theorem ag111:Go.Run.isAgg (C m) 111 = some false:=by kernel_rfl
theorem sz111:size (C m) 111 = some 1:=by kernel_rfl
theorem in111:((C m).P.info? 111).map (fun t=>(t.size,t.bytes)) = some (1,24):=by kernel_rfl
theorem un112:und (C m) 112 = some (.slice 120):=by kernel_rfl
theorem ag112:Go.Run.isAgg (C m) 112 = some false:=by kernel_rfl
theorem sz112:size (C m) 112 = some 1:=by kernel_rfl
theorem in112:((C m).P.info? 112).map (fun t=>(t.size,t.bytes)) = some (1,24):=by kernel_rfl
theorem W9:und (C m) 113 = some (.slice 32):=by kernel_rfl
theorem Wt:Go.Run.isAgg (C m) 113 = some false:=by kernel_rfl
theorem sz113:size (C m) 113 = some 1:=by kernel_rfl
theorem ag115:Go.Run.isAgg (C m) 115 = some true:=by kernel_rfl
theorem sz115:size (C m) 115 = some 2:=by kernel_rfl
theorem fa115_0 {i o:Nat}:Qh (C m) 115 (P i o) 0 σ = .val (P i (o + 0)):=by kernel_rfl
theorem Wv {i o:Nat}:Qh (C m) 115 (P i o) 1 σ = .val (P i (o + 1)):=by kernel_rfl
theorem ag117:Go.Run.isAgg (C m) 117 = some true:=by kernel_rfl
theorem sz117:size (C m) 117 = some 4:=by kernel_rfl
theorem in117:((C m).P.info? 117).map (fun t=>(t.size,t.bytes)) = some (4,56):=by kernel_rfl
theorem fa117_0 {i o:Nat}:Qh (C m) 117 (P i o) 0 σ = .val (P i (o + 0)):=by kernel_rfl
theorem fa117_1 {i o:Nat}:Qh (C m) 117 (P i o) 1 σ = .val (P i (o + 2)):=by kernel_rfl
theorem fa117_2 {i o:Nat}:Qh (C m) 117 (P i o) 2 σ = .val (P i (o + 3)):=by kernel_rfl
theorem ag118:Go.Run.isAgg (C m) 118 = some true:=by kernel_rfl
theorem sz118:size (C m) 118 = some 2:=by kernel_rfl
theorem fa118_0 {i o:Nat}:Qh (C m) 118 (P i o) 0 σ = .val (P i (o + 0)):=by kernel_rfl
theorem Jb {i o:Nat}:Qh (C m) 118 (P i o) 1 σ = .val (P i (o + 1)):=by kernel_rfl
theorem ag120:Go.Run.isAgg (C m) 120 = some true:=by kernel_rfl
theorem sz120:size (C m) 120 = some 4:=by kernel_rfl
theorem in120:((C m).P.info? 120).map (fun t=>(t.size,t.bytes)) = some (4,56):=by kernel_rfl
theorem fa120_0 {i o:Nat}:Qh (C m) 120 (P i o) 0 σ = .val (P i (o + 0)):=by kernel_rfl
theorem fa120_1 {i o:Nat}:Qh (C m) 120 (P i o) 1 σ = .val (P i (o + 2)):=by kernel_rfl
theorem fa120_2 {i o:Nat}:Qh (C m) 120 (P i o) 2 σ = .val (P i (o + 3)):=by kernel_rfl
theorem un130:und (C m) 130 = some (.slice 5):=by kernel_rfl
theorem un195:und (C m) 195 = some (.int .u64):=by kernel_rfl
end Ty
end Go.Proofs.YtjfgdcegpgoobaaGreatDoor
