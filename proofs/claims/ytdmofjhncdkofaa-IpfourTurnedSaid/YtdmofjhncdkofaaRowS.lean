/- Struct parameters of a row, laid open to their fields, whatever their number. -/
import Derived.Test.YtdmofjhncdkofaaV
import Derived.WalkKit
import Derived.ProofKit
import Derived.OpenShut
import Derived.ShutString
import Derived.ChangeOld
import Derived.Below
import Derived.SizedLaws
import Derived.Lib.SmallJoins
import Derived.Deep.Slices
import Derived.Deep.Fields
import Derived.ChangeSame
namespace Go.Proofs.Ytdmofjhncdkofaa.RowS
set_option linter.unusedVariables false
open Go Go.Joins Go.ChangeShapes Go.WideShapes Go.RowKit Go.Deep Go.Proofs.YtdmofjhncdkofaaW.PrintWords Go.Proofs.YtdmofjhncdkofaaW.PrintMore
section
variable {H : Type} {enc : TypeId × Value → H} {P : Program} {w : World} {base : Nat} {spare : Nat → Bool} {held : Bool}
theorem list_of_len {α : Type} (d : α) (l : List α) (n : Nat) (h : l.length = n) : l = (List.range n).map (fun i => l.getD i d) := by
  apply List.ext_getElem
  · rw [List.length_map, List.length_range, h]
  · intro i h1 h2
    rw [List.getElem_map, List.getElem_range, List.getD_eq_getElem?_getD, List.getElem?_eq_getElem h1]; rfl
/-- A struct of one-cell fields, by value: the fields' values, data and readings. -/
theorem open_aggN {r : Reach} {b0 : Nat} {t : TypeId} {fs : Array Field} {v : Value} {d : DataW H} {p : List MemPlace} (hs : P.underlying t = some (.struct fs)) (hone : oneCellFields P fs = true) (hC : P.cellsOf t = fs.size)
    (hv : Value.okWide P w r b0 t v) (h : DataW.Trod enc P w base spare held t v d p) :
    ∃ (c : Nat → Value) (y : Nat → DataW H × List MemPlace) (n : Nat), v = .agg ((List.range fs.size).map c).toArray ∧ d = .agg ((List.range fs.size).map fun j => (y j).1) ∧
      ∀ j f, fs[j]? = some f → DataW.trod enc P w base spare held n f.type [c j] = some (y j) := by
  obtain ⟨cs, rfl, hsz⟩ := okWide_struct hs hv
  obtain ⟨l⟩ := cs
  obtain ⟨fuel, hf⟩ := h
  obtain ⟨xs, n, _, hx, _, hlen, hg⟩ := DataW.trod_struct hs hf
  simp only [Prod.mk.injEq] at hx
  have hl : l.length = fs.size := hsz.trans hC
  have e1 := list_of_len (Value.int .i64 0) l fs.size hl
  have e2 := list_of_len ((DataW.nil, []) : DataW H × List MemPlace) xs fs.size hlen
  refine ⟨fun i => l.getD i (Value.int .i64 0), fun i => xs.getD i (DataW.nil, []), n, by rw [← e1], ?_, ?_⟩
  · rw [hx.1]
    conv => lhs; rw [e2]
    rw [List.map_map]; rfl
  · intro j f hj
    obtain ⟨ho, hk⟩ := hone_of hone j f hj
    have hjl : j < fs.size := (Array.getElem?_eq_some_iff.1 hj).1
    have h1 := hg j f hj
    rw [ho, hk] at h1
    simp only [Value.cells] at h1
    have hone' : (l.drop j).take 1 = [l.getD j (Value.int .i64 0)] := by
      rw [List.drop_eq_getElem_cons (by omega), List.getD_eq_getElem?_getD, List.getElem?_eq_getElem (by omega)]; rfl
    rw [hone'] at h1
    rw [h1]
    show xs[j]? = some (xs.getD j (DataW.nil, []))
    rw [List.getD_eq_getElem?_getD, List.getElem?_eq_getElem (by omega)]; rfl
theorem sized_mem {ts : List TypeId} {ds : List (DataW H)} (h : (DataW.weightsEach P ts ds).all (· ≤ reachBytes) = true) {j : Nat} {t : TypeId} {d : DataW H} (ht : ts[j]? = some t) (hd : ds[j]? = some d) {n : Nat} (hn : n ∈ d.weights P t) : n ≤ reachBytes := by
  have := List.all_eq_true.1 h _ (DataW.weights_mem_each ht hd n hn)
  simpa using this
theorem agg_mem {t : TypeId} {fs : Array Field} (hs : P.underlying t = some (.struct fs)) {parts : List (DataW H)} {j : Nat} {f : Field} {d : DataW H} (hf : fs[j]? = some f) (hd : parts[j]? = some d) {n : Nat} (hn : n ∈ d.weights P f.type) : n ∈ (DataW.agg parts).weights P t := by
  simp only [DataW.weights, hs]
  refine DataW.weights_mem_each (j := j) (t := f.type) (d := d) ?_ hd n hn
  rw [List.getElem?_map, Array.getElem?_toList, hf]; rfl
theorem all_mem {e : TypeId} : ∀ {l : List (DataW H)} {d : DataW H}, d ∈ l → ∀ n ∈ d.weights P e, n ∈ DataW.weightsAll P e l
  | [], _, h, _, _ => by cases h
  | x :: l, d, h, n, hn => by
    simp only [DataW.weightsAll, List.mem_append]
    rcases List.mem_cons.mp h with rfl | h
    · exact .inl hn
    · exact .inr (all_mem h n hn)
theorem slice_mem {t e : TypeId} (hs : P.underlying t = some (.slice e)) {el sp : List (DataW H)} {d : DataW H} (hd : d ∈ el) {n : Nat} (hn : n ∈ d.weights P e) : n ∈ (DataW.slice el sp).weights P t := by
  simp only [DataW.weights, hs, List.mem_cons, List.mem_append]
  exact .inr (.inl (all_mem hd n hn))
theorem slice_len {t e : TypeId} (hs : P.underlying t = some (.slice e)) {el sp : List (DataW H)} : (el.length + sp.length) * P.bytesOf e ∈ (DataW.slice el sp).weights P t := by
  simp only [DataW.weights, hs, List.mem_cons, true_or]
theorem str_mem {t : TypeId} {b : List UInt8} : b.length ∈ (DataW.lit (.string b) : DataW H).weights P t := by simp [DataW.weights]
/-- A field that is a whole number. -/
theorem fld_int {t : TypeId} {k : IntKind} {n : Nat} {c : Value} {y : DataW H × List MemPlace} (ht : P.underlying t = some (.int k)) (h : DataW.trod enc P w base spare held n t [c] = some y) : ∃ a, c = .int k a ∧ y.1 = .lit (.int k a) ∧ (Lit.int k a).wf = true := by
  obtain ⟨a, h1, h2, h3⟩ := DataW.trod_int ht h
  simp only [List.cons.injEq, and_true] at h1
  exact ⟨a, h1, by rw [h2], h3⟩
/-- A field that is a string. -/
theorem fld_str {t : TypeId} {n : Nat} {c : Value} {y : DataW H × List MemPlace} (ht : P.underlying t = some .string) (h : DataW.trod enc P w base spare held n t [c] = some y) : ∃ s : ByteArray, c = .string s ∧ y.1 = .lit (.string s.data.toList) := by
  obtain ⟨s, h1, h2, h3⟩ := DataW.trod_string ht h
  simp only [List.cons.injEq, and_true] at h1
  exact ⟨s, h1, by rw [h2]⟩
theorem open_slice_fields {t e : TypeId} {fs : Array Field} {fuel : Nat} {cs : List Value} {x : DataW H × List MemPlace} (ht : P.underlying t = some (.slice e)) (he : P.underlying e = some (.struct fs))
    (hone : oneCellFields P fs = true) (hC : P.cellsOf e = fs.size) (h : DataW.trod enc P w base spare held fuel t cs = some x) :
    (cs = [.slice none 0 0] ∧ x = (.nil, [])) ∨
    ∃ (a : Addr) (len cap m n : Nat) (D : Nat → DataW H) (sp : List (DataW H)) (Pl : List MemPlace), cs = [.slice (some a) len cap] ∧ len ≤ cap ∧ cap ≤ maxLen ∧ len ≤ m ∧ x = (.slice ((List.range len).map D) sp, Pl) ∧
      ∀ i, i < m → ∃ (g : Nat → Value) (y : Nat → DataW H × List MemPlace) (n : Nat), D i = .agg ((List.range fs.size).map fun j => (y j).1) ∧ (∀ j, j < fs.size → w.cell? (a.add (i * fs.size + j)) = some (g j)) ∧
        ∀ j f, fs[j]? = some f → DataW.trod enc P w base spare held n f.type [g j] = some (y j) := by
  rcases open_slice ht h with h0 | ⟨a, len, cap, m, n, D, Pl, hcs, hb, hl, hm, hmm, hx, hi⟩
  · exact .inl h0
  · refine .inr ⟨a, len, cap, m, n, D, _, _, hcs, hl, hm, by rw [hmm]; split <;> omega, hx, fun i him => ?_⟩
    obtain ⟨cs', hc, ht'⟩ := hi i him
    rw [hC] at hc
    obtain ⟨ys, n', hn', hy, hlen, hyl, hf⟩ := DataW.trod_struct he ht'
    obtain ⟨_, hcl, hat⟩ := World.cells?_some hc
    simp only [Prod.mk.injEq] at hy
    have e2 := list_of_len ((DataW.nil, []) : DataW H × List MemPlace) ys fs.size hyl
    refine ⟨fun j => cs'.getD j (.int .i64 0), fun j => ys.getD j (DataW.nil, []), n', ?_, ?_, ?_⟩
    · rw [hy.1]
      conv => lhs; rw [e2]
      rw [List.map_map]; rfl
    · intro j hj
      have hcell := hat j hj

      have hv : cs'[j]? = some (cs'[j]'(by omega)) := List.getElem?_eq_getElem (by omega)
      rw [← Go.Deep.add_add, hcell]
      show cs'[j]? = some (cs'.getD j (Value.int .i64 0))
      rw [List.getD_eq_getElem?_getD, hv]; rfl
    · intro j f hj
      obtain ⟨ho, hk⟩ := hone_of hone j f hj
      have hjl : j < fs.size := (Array.getElem?_eq_some_iff.1 hj).1
      have h1 := hf j f hj
      rw [ho, hk] at h1
      have hone' : (cs'.drop j).take 1 = [cs'.getD j (Value.int .i64 0)] := by
        rw [List.drop_eq_getElem_cons (by omega), List.getD_eq_getElem?_getD, List.getElem?_eq_getElem (by omega)]; rfl
      rw [hone'] at h1
      rw [h1]
      show ys[j]? = some (ys.getD j (DataW.nil, []))
      rw [List.getD_eq_getElem?_getD, List.getElem?_eq_getElem (by omega)]; rfl
/-- A field that is a slice of structs: the list that it reads as. -/
theorem fld_rows {α : Type} (d : Kd α) (Q : α → Prop) {t e : TypeId} {fs : Array Field} (ht : P.underlying t = some (.slice e)) (he : P.underlying e = some (.struct fs)) (hone : oneCellFields P fs = true) (hC : P.cellsOf e = fs.size) (hsz : d.sz = fs.size)
    (HH : ∀ (g : Nat → Value) (y : Nat → DataW H × List MemPlace) (n : Nat), (∀ j f, fs[j]? = some f → DataW.trod enc P w base spare held n f.type [g j] = some (y j)) → (∀ m ∈ (DataW.agg ((List.range fs.size).map fun j => (y j).1)).weights P e, m ≤ reachBytes) → ∃ x : α, d.K w x ((List.range fs.size).map g) ∧ Q x)
    {n : Nat} {v : Value} {z : DataW H × List MemPlace} (h : DataW.trod enc P w base spare held n t [v] = some z) (hw : ∀ m ∈ z.1.weights P t, m ≤ reachBytes) :
    ∃ (A : Option Addr) (cap : Nat) (l : List α), v = .slice A l.length cap ∧ l.length ≤ cap ∧ d.C w A l.length l ∧ (∀ x ∈ l, Q x) ∧ l.length * P.bytesOf e ≤ reachBytes := by
  rcases open_slice_fields ht he hone hC h with ⟨hc, hz⟩ | ⟨a, len, cap, m, n, D, sp, Pl, hc, hl, hm, hlm, hx, hi⟩
  · simp only [List.cons.injEq, and_true] at hc
    exact ⟨none, 0, [], hc, Nat.le_refl _, ⟨rfl, Nat.zero_le _, fun h => absurd h (Nat.lt_irrefl 0)⟩, fun x h => (by cases h), by simp⟩
  · simp only [List.cons.injEq, and_true] at hc
    have key : ∀ k, k ≤ len → ∃ l : List α, l.length = k ∧ (∀ x ∈ l, Q x) ∧ ∀ j p, l[j]? = some p → ∃ c, c.length = d.sz ∧ d.K w p c ∧ ∀ i u, c[i]? = some u → w.cell? (a.add (j * d.sz + i)) = some u := by
      intro k
      induction k with
      | zero => intro _; exact ⟨[], rfl, fun x h => (by cases h), fun j p h => by simp at h⟩
      | succ k ih =>
        intro hk
        obtain ⟨l, l1, l2, l3⟩ := ih (by omega)
        obtain ⟨g, y, n', hD, hcell, hf⟩ := hi k (by omega)
        obtain ⟨x, hK, hQ⟩ := HH g y n' hf (by
          intro m' hm'
          refine hw m' ?_
          rw [hx]
          refine slice_mem ht (d := D k) (List.mem_map.mpr ⟨k, List.mem_range.mpr (by omega), rfl⟩) ?_
          rw [hD]; exact hm')
        refine ⟨l ++ [x], by simp [l1], ?_, ?_⟩
        · intro q hq
          rcases List.mem_append.mp hq with h | h
          · exact l2 q h
          · rw [List.mem_singleton.mp h]; exact hQ
        · intro j p hp
          by_cases hj : j < k
          · rw [List.getElem?_append_left (by omega)] at hp
            exact l3 j p hp
          · have hjk : j = k := by
              have := (List.getElem?_eq_some_iff.1 hp).1
              simp at this; omega
            subst hjk
            rw [List.getElem?_append_right (by omega), l1, Nat.sub_self] at hp
            simp at hp
            subst hp
            refine ⟨(List.range fs.size).map g, by simp [hsz], hK, ?_⟩
            intro i u hu
            have hi' : i < fs.size := by
              have := (List.getElem?_eq_some_iff.1 hu).1
              simpa using this
            rw [List.getElem?_map, List.getElem?_range hi'] at hu
            simp at hu
            rw [hsz, hcell i hi', hu]
    obtain ⟨l, l1, l2, l3⟩ := key len (Nat.le_refl _)
    have hml : maxLen ≤ 9223372036854775807 := by unfold maxLen; omega
    refine ⟨some a, cap, l, by rw [l1]; exact hc, by omega, ⟨rfl, by omega, fun _ => ⟨a, rfl, l3⟩⟩, l2, ?_⟩
    have := hw _ (by rw [hx]; exact slice_len ht)
    rw [List.length_map, List.length_range] at this
    rw [l1]
    exact Nat.le_trans (Nat.mul_le_mul_right _ (Nat.le_add_right _ _)) this
end
end Go.Proofs.Ytdmofjhncdkofaa.RowS
