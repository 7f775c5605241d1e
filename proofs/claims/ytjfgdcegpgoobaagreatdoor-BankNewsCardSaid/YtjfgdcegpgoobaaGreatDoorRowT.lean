/- Struct parameters of a row, laid open to their fields, whatever their number. -/
import Derived.WalkKit
import Derived.ProofKit
import Derived.OpenShut
import Derived.ShutString
import Derived.ChangeOld
import Derived.Below
import Derived.SizedLaws
import Derived.Lib.SmallJoins
import Derived.Deep.Slices
import Derived.Deep.Fields
import Derived.ChangeSame
set_option linter.unusedVariables false
namespace Go.Proofs.YtjfgdcegpgoobaaGreatDoor.RowT
set_option linter.unusedVariables false
open Go Go.Joins Go.ChangeShapes Go.WideShapes Go.RowKit Go.Deep
section
variable {H:Type} {enc:TypeId × Value→H} {P:Program} {w:World} {base:Nat} {spare:Nat→Bool} {held:Bool}
theorem list_of_len {α:Type} (d:α) (l:List α) (n:Nat) (h:l.length = n):l = (List.range n).map (fun i=>l.getD i d):=by
  apply List.ext_getElem
  · rw [List.length_map,List.length_range,h]
  · intro i h1 h2
    rw [List.getElem_map,List.getElem_range,List.getD_eq_getElem?_getD,List.getElem?_eq_getElem h1]; rfl
theorem open_aggN {r:Reach} {b0:Nat} {t:TypeId} {fs:Array Field} {v:Value} {d:DataW H} {p:List MemPlace} (hs:P.underlying t = some (.struct fs)) (hone:oneCellFields P fs = true) (hC:P.cellsOf t = fs.size)
    (hv:Value.okWide P w r b0 t v) (h:DataW.Trod enc P w base spare held t v d p) :
    ∃ (c:Nat→Value) (y:Nat→DataW H × List MemPlace) (n:Nat),v = .agg ((List.range fs.size).map c).toArray∧d = .agg ((List.range fs.size).map fun j=>(y j).1) ∧
      ∀ j f,fs[j]? = some f→DataW.trod enc P w base spare held n f.type [c j] = some (y j):=by
  obtain ⟨cs,rfl,hsz⟩:=okWide_struct hs hv
  obtain ⟨l⟩:=cs
  obtain ⟨fuel,hf⟩:=h
  obtain ⟨xs,n,_,hx,_,hlen,hg⟩:=DataW.trod_struct hs hf
  simp only [Prod.mk.injEq] at hx
  have hl:l.length = fs.size:=hsz.trans hC
  have e1:=list_of_len (Value.int .i64 0) l fs.size hl
  have e2:=list_of_len ((DataW.nil,[]):DataW H × List MemPlace) xs fs.size hlen
  refine ⟨fun i=>l.getD i (Value.int .i64 0),fun i=>xs.getD i (DataW.nil,[]),n,by rw [← e1],?_,?_⟩
  · rw [hx.1]
    conv=>lhs; rw [e2]
    rw [List.map_map]; rfl
  · intro j f hj
    obtain ⟨ho,hk⟩:=hone_of hone j f hj
    have hjl:j < fs.size:=(Array.getElem?_eq_some_iff.1 hj).1
    have h1:=hg j f hj
    rw [ho,hk] at h1
    simp only [Value.cells] at h1
    have hone':(l.drop j).take 1 = [l.getD j (Value.int .i64 0)]:=by
      rw [List.drop_eq_getElem_cons (by omega),List.getD_eq_getElem?_getD,List.getElem?_eq_getElem (by omega)]; rfl
    rw [hone'] at h1
    rw [h1]
    show xs[j]? = some (xs.getD j (DataW.nil,[]))
    rw [List.getD_eq_getElem?_getD,List.getElem?_eq_getElem (by omega)]; rfl
theorem fld_int {t:TypeId} {k:IntKind} {n:Nat} {c:Value} {y:DataW H × List MemPlace} (ht:P.underlying t = some (.int k)) (h:DataW.trod enc P w base spare held n t [c] = some y):∃ a,c = .int k a∧y.1 = .lit (.int k a)∧(Lit.int k a).wf = true:=by
  obtain ⟨a,h1,h2,h3⟩:=DataW.trod_int ht h
  simp only [List.cons.injEq,and_true] at h1
  exact ⟨a,h1,by rw [h2],h3⟩
end
end Go.Proofs.YtjfgdcegpgoobaaGreatDoor.RowT
