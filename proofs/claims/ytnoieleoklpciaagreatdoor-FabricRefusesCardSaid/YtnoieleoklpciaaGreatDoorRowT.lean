/- Struct parameters of a row, laid open to their fields, whatever their number. -/
import Derived.WalkKit
import Derived.ProofKit
import Derived.OpenShut
import Derived.ShutString
import Derived.ChangeOld
import Derived.Below
import Derived.SizedLaws
import Derived.Lib.SmallJoins
import Derived.Deep.Slices
import Derived.Deep.Fields
import Derived.ChangeSame
set_option linter.unusedVariables false
set_option linter.unusedSimpArgs false
namespace Go.Proofs.YtnoieleoklpciaaGreatDoor.RowT
set_option linter.unusedVariables false
open Go Go.Joins Go.ChangeShapes Go.WideShapes Go.RowKit Go.Deep
section
variable {H : Type} {enc : TypeId × Value → H} {P : Program} {w : World} {base : Nat} {spare : Nat → Bool} {held : Bool}
theorem list_of_len {α : Type} (d : α) (l : List α) (n : Nat) (h : l.length = n) : l = (List.range n).map (fun i => l.getD i d) := by
  apply List.ext_getElem
  · rw [List.length_map, List.length_range, h]
  · intro i h1 h2
    rw [List.getElem_map, List.getElem_range, List.getD_eq_getElem?_getD, List.getElem?_eq_getElem h1]; rfl
/-- A struct of one-cell fields, by value: the fields' values, data and readings. -/
theorem open_aggN {r : Reach} {b0 : Nat} {t : TypeId} {fs : Array Field} {v : Value} {d : DataW H} {p : List MemPlace} (hs : P.underlying t = some (.struct fs)) (hone : oneCellFields P fs = true) (hC : P.cellsOf t = fs.size)
    (hv : Value.okWide P w r b0 t v) (h : DataW.Trod enc P w base spare held t v d p) :
    ∃ (c : Nat → Value) (y : Nat → DataW H × List MemPlace) (n : Nat), v = .agg ((List.range fs.size).map c).toArray ∧ d = .agg ((List.range fs.size).map fun j => (y j).1) ∧
      ∀ j f, fs[j]? = some f → DataW.trod enc P w base spare held n f.type [c j] = some (y j) := by
  obtain ⟨cs, rfl, hsz⟩ := okWide_struct hs hv
  obtain ⟨l⟩ := cs
  obtain ⟨fuel, hf⟩ := h
  obtain ⟨xs, n, _, hx, _, hlen, hg⟩ := DataW.trod_struct hs hf
  simp only [Prod.mk.injEq] at hx
  have hl : l.length = fs.size := hsz.trans hC
  have e1 := list_of_len (Value.int .i64 0) l fs.size hl
  have e2 := list_of_len ((DataW.nil, []) : DataW H × List MemPlace) xs fs.size hlen
  refine ⟨fun i => l.getD i (Value.int .i64 0), fun i => xs.getD i (DataW.nil, []), n, by rw [← e1], ?_, ?_⟩
  · rw [hx.1]
    conv => lhs; rw [e2]
    rw [List.map_map]; rfl
  · intro j f hj
    obtain ⟨ho, hk⟩ := hone_of hone j f hj
    have hjl : j < fs.size := (Array.getElem?_eq_some_iff.1 hj).1
    have h1 := hg j f hj
    rw [ho, hk] at h1
    simp only [Value.cells] at h1
    have hone' : (l.drop j).take 1 = [l.getD j (Value.int .i64 0)] := by
      rw [List.drop_eq_getElem_cons (by omega), List.getD_eq_getElem?_getD, List.getElem?_eq_getElem (by omega)]; rfl
    rw [hone'] at h1
    rw [h1]
    show xs[j]? = some (xs.getD j (DataW.nil, []))
    rw [List.getD_eq_getElem?_getD, List.getElem?_eq_getElem (by omega)]; rfl
theorem sized_mem {ts : List TypeId} {ds : List (DataW H)} (h : (DataW.weightsEach P ts ds).all (· ≤ reachBytes) = true) {j : Nat} {t : TypeId} {d : DataW H} (ht : ts[j]? = some t) (hd : ds[j]? = some d) {n : Nat} (hn : n ∈ d.weights P t) : n ≤ reachBytes := by
  have := List.all_eq_true.1 h _ (DataW.weights_mem_each ht hd n hn)
  simpa using this
theorem agg_mem {t : TypeId} {fs : Array Field} (hs : P.underlying t = some (.struct fs)) {parts : List (DataW H)} {j : Nat} {f : Field} {d : DataW H} (hf : fs[j]? = some f) (hd : parts[j]? = some d) {n : Nat} (hn : n ∈ d.weights P f.type) : n ∈ (DataW.agg parts).weights P t := by
  simp only [DataW.weights, hs]
  refine DataW.weights_mem_each (j := j) (t := f.type) (d := d) ?_ hd n hn
  rw [List.getElem?_map, Array.getElem?_toList, hf]; rfl
theorem all_mem {e : TypeId} : ∀ {l : List (DataW H)} {d : DataW H}, d ∈ l → ∀ n ∈ d.weights P e, n ∈ DataW.weightsAll P e l
  | [], _, h, _, _ => by cases h
  | x :: l, d, h, n, hn => by
    simp only [DataW.weightsAll, List.mem_append]
    rcases List.mem_cons.mp h with rfl | h
    · exact .inl hn
    · exact .inr (all_mem h n hn)
theorem slice_mem {t e : TypeId} (hs : P.underlying t = some (.slice e)) {el sp : List (DataW H)} {d : DataW H} (hd : d ∈ el) {n : Nat} (hn : n ∈ d.weights P e) : n ∈ (DataW.slice el sp).weights P t := by
  simp only [DataW.weights, hs, List.mem_cons, List.mem_append]
  exact .inr (.inl (all_mem hd n hn))
theorem slice_len {t e : TypeId} (hs : P.underlying t = some (.slice e)) {el sp : List (DataW H)} : (el.length + sp.length) * P.bytesOf e ∈ (DataW.slice el sp).weights P t := by
  simp only [DataW.weights, hs, List.mem_cons, true_or]
theorem str_mem {t : TypeId} {b : List UInt8} : b.length ∈ (DataW.lit (.string b) : DataW H).weights P t := by simp [DataW.weights]
/-- A field that is a whole number. -/
theorem fld_int {t : TypeId} {k : IntKind} {n : Nat} {c : Value} {y : DataW H × List MemPlace} (ht : P.underlying t = some (.int k)) (h : DataW.trod enc P w base spare held n t [c] = some y) : ∃ a, c = .int k a ∧ y.1 = .lit (.int k a) ∧ (Lit.int k a).wf = true := by
  obtain ⟨a, h1, h2, h3⟩ := DataW.trod_int ht h
  simp only [List.cons.injEq, and_true] at h1
  exact ⟨a, h1, by rw [h2], h3⟩
/-- A field that is a string. -/
theorem fld_str {t : TypeId} {n : Nat} {c : Value} {y : DataW H × List MemPlace} (ht : P.underlying t = some .string) (h : DataW.trod enc P w base spare held n t [c] = some y) : ∃ s : ByteArray, c = .string s ∧ y.1 = .lit (.string s.data.toList) := by
  obtain ⟨s, h1, h2, h3⟩ := DataW.trod_string ht h
  simp only [List.cons.injEq, and_true] at h1
  exact ⟨s, h1, by rw [h2]⟩
end
end Go.Proofs.YtnoieleoklpciaaGreatDoor.RowT
