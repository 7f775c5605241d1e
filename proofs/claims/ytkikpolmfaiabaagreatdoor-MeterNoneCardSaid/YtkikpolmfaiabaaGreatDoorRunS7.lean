import Derived.Test.YtkikpolmfaiabaaGreatDoorRunS6
namespace Go.Run
variable {cx : Cx} {π : Pl} {σ : St} {w : World}

def plainV : Value → Bool
  | .bool _ => true
  | .pointer _ => true
  | .slice _ _ _ => true
  | .map _ => true
  | .func _ _ _ => true
  | .nilFunc => true
  | .agg _ => true
  | _ => false
theorem binOp_eql' {X Y : Value} (t : TypeId) (hx : plainV X = true) (hy : plainV Y = true) : Go.binOp .eql t X Y = (do pure (.bool (← Op.equal t X Y))) := by
  cases X <;> first | (simp [plainV] at hx; done) | (cases Y <;> first | (simp [plainV] at hy; done) | rfl)
theorem binOp_neq' {X Y : Value} (t : TypeId) (hx : plainV X = true) (hy : plainV Y = true) : Go.binOp .neq t X Y = (do pure (.bool (!(← Op.equal t X Y)))) := by
  cases X <;> first | (simp [plainV] at hx; done) | (cases Y <;> first | (simp [plainV] at hy; done) | rfl)
theorem eqGuard_run {op : BinOp} {X Y : Value} (t : TypeId) (xo yo : Operand) (hx : plainV X = true) (hy : plainV Y = true) (h : cx.P.eqGuardType cx.P.depth t = false) : (eqGuard op t xo yo X Y).run cx.P w = .ok () w := by
  cases X <;> first | (simp [plainV] at hx; done) | (cases Y <;> first | (simp [plainV] at hy; done) | (cases op <;> simp [eqGuard, h]))
theorem plain_ptr {p : Option (Nat × Nat)} {X : Value} (h : RA π (.one (.ptr p)) X) : plainV X = true := by
  cases p with
  | none => have e : X = .pointer none := by simpa [RA, RC] using h
            subst e; rfl
  | some p => simp only [RA] at h; obtain ⟨_, _, _, _, rfl⟩ := h; rfl
theorem plain_slice {p : Option (Nat × Nat)} {l : Nat} {c : Cap} {X : Value} (h : RA π (.one (.slice p l c)) X) : plainV X = true := by
  cases p with
  | none => simp only [RA] at h; obtain ⟨_, rfl⟩ := h; rfl
  | some p => simp only [RA] at h; obtain ⟨_, _, _, _, _, _, rfl, _⟩ := h; rfl
theorem plain_map {p : Option Nat} {X : Value} (h : RA π (.one (.map p)) X) : plainV X = true := by
  cases p with
  | none => have e : X = .map none := by simpa [RA, RC] using h
            subst e; rfl
  | some p => simp only [RA] at h; obtain ⟨_, _, rfl⟩ := h; rfl
theorem plain_func {f : FuncId} {l : List (Nat × Nat)} {X : Value} (h : RA π (.one (.func f l)) X) : plainV X = true := by
  simp only [RA] at h; obtain ⟨_, rfl, _⟩ := h; rfl
theorem plain_nilF {X : Value} (h : RA π (.one .nilFunc) X) : plainV X = true := by
  have e : X = .nilFunc := by simpa [RA, RC] using h
  subst e; rfl
theorem plain_bool {b : Bool} {X : Value} (h : RA π (.one (.bool b)) X) : plainV X = true := by rw [bool_of h]; rfl
theorem plain_agg {l : List CV} {X : Value} (h : RA π (.agg l) X) : plainV X = true := by
  simp only [RA] at h; obtain ⟨_, rfl, _⟩ := h; rfl

theorem eqA_plain {d : Nat} {t : TypeId} {x y : AV} {r : Bool} {X Y : Value} (h : eqA cx d t x y = some r) (hi : ∀ k a k' b, x = .one (.int k a) → y = .one (.int k' b) → False) (hs : ∀ a b, x = .one (.str a) → y = .one (.str b) → False)
    (hx : RA π x X) (hy : RA π y Y) : plainV X = true ∧ plainV Y = true := by
  cases d with
  | zero => simp [eqA] at h
  | succ d =>
    unfold eqA at h
    split at h
    · exact ⟨plain_bool hx, plain_bool hy⟩
    · exact (hi _ _ _ _ rfl rfl).elim
    · exact (hs _ _ rfl rfl).elim
    · exact ⟨plain_ptr hx, plain_ptr hy⟩
    · exact ⟨plain_ptr hx, plain_ptr hy⟩
    · exact ⟨plain_ptr hx, plain_ptr hy⟩
    · exact ⟨plain_slice hx, plain_slice hy⟩
    · exact ⟨plain_slice hx, plain_slice hy⟩
    · exact ⟨plain_map hx, plain_map hy⟩
    · exact ⟨plain_map hx, plain_map hy⟩
    · exact ⟨plain_nilF hx, plain_nilF hy⟩
    · exact ⟨plain_nilF hx, plain_func hy⟩
    · exact ⟨plain_func hx, plain_nilF hy⟩
    · exact ⟨plain_agg hx, plain_agg hy⟩
    · cases h

theorem eql_ok {t : TypeId} {xo yo : Operand} {x y : AV} {X Y : Value} (hx : RA π x X) (hy : RA π y Y) : Yields cx.P π σ w (guardOf .eql t xo yo X Y) (eqF false cx t x y) := by
  unfold eqF
  split
  · rename_i k a k' b
    cases hk : kindEq k k'
    · trivial
    · have := kindEq_ok hk; subst this
      rw [int_of hx, int_of hy]
      exact yields_bool (c := a == b) (by simp [guardOf, eqGuard, Go.binOp, Op.intCmp]) (by rw [intEq_ok]; simp)
  · rename_i a b
    rw [str_of hx, str_of hy]
    exact yields_bool (c := a.toList == b.toList) (by simp [guardOf, eqGuard, Go.binOp, Op.stringOp]) (by rw [bytesEq_ok, bytesOf_ok, bytesOf_ok]; simp)
  · rename_i h1 h2
    cases hg : cx.P.eqGuardType cx.P.depth t
    · simp only [cond_false]
      split
      · rename_i r hr
        obtain ⟨p1, p2⟩ := eqA_plain hr (fun k a k' b e1 e2 => h1 k a k' b e1 e2) (fun a b e1 e2 => h2 a b e1 e2) hx hy
        refine yields_bool (c := r) ?_ (by simp)
        simp only [guardOf, Sem.run_bind, eqGuard_run t xo yo p1 p2 hg, Result.andThen_ok, binOp_eql' t p1 p2]
        have := (eq_both (cx := cx) (π := π) (w := w) 10000).1 t x y r X Y hr hx hy 10000 (Nat.le_refl _)
        have e : Op.equal t X Y = Op.equalIn 10000 t X Y := rfl
        rw [e, this]; rfl
      · trivial
    · trivial
theorem neq_ok {t : TypeId} {xo yo : Operand} {x y : AV} {X Y : Value} (hx : RA π x X) (hy : RA π y Y) : Yields cx.P π σ w (guardOf .neq t xo yo X Y) (eqF true cx t x y) := by
  unfold eqF
  split
  · rename_i k a k' b
    cases hk : kindEq k k'
    · trivial
    · have := kindEq_ok hk; subst this
      rw [int_of hx, int_of hy]
      exact yields_bool (c := a != b) (by simp [guardOf, eqGuard, Go.binOp, Op.intCmp]) (by rw [intEq_ok]; simp [bne])
  · rename_i a b
    rw [str_of hx, str_of hy]
    exact yields_bool (c := !(a.toList == b.toList)) (by simp [guardOf, eqGuard, Go.binOp, Op.stringOp]) (by rw [bytesEq_ok, bytesOf_ok, bytesOf_ok]; simp)
  · rename_i h1 h2
    cases hg : cx.P.eqGuardType cx.P.depth t
    · simp only [cond_false]
      split
      · rename_i r hr
        obtain ⟨p1, p2⟩ := eqA_plain hr (fun k a k' b e1 e2 => h1 k a k' b e1 e2) (fun a b e1 e2 => h2 a b e1 e2) hx hy
        refine yields_bool (c := !r) ?_ (by simp)
        simp only [guardOf, Sem.run_bind, eqGuard_run t xo yo p1 p2 hg, Result.andThen_ok, binOp_neq' t p1 p2]
        have := (eq_both (cx := cx) (π := π) (w := w) 10000).1 t x y r X Y hr hx hy 10000 (Nat.le_refl _)
        have e : Op.equal t X Y = Op.equalIn 10000 t X Y := rfl
        rw [e, this]; rfl
      · trivial
    · trivial

theorem bin_ok {op : BinOp} {t : TypeId} {xo yo : Operand} {x y : AV} {X Y : Value} (hx : RA π x X) (hy : RA π y Y) : Yields cx.P π σ w (guardOf op t xo yo X Y) (binT op cx t x y) := by
  cases op
  · exact add_ok hx hy
  · exact sub_ok hx hy
  · exact mul_ok hx hy
  · exact quo_ok hx hy
  · exact rem_ok hx hy
  · exact and_ok hx hy
  · exact or_ok hx hy
  · exact xor_ok hx hy
  · exact shl_ok hx hy
  · exact shr_ok hx hy
  · exact andNot_ok hx hy
  · exact eql_ok hx hy
  · exact neq_ok hx hy
  · exact lss_ok hx hy
  · exact leq_ok hx hy
  · exact gtr_ok hx hy
  · exact geq_ok hx hy

/-! Parts of structs and slices. -/
theorem fieldOf_und {s : TypeId} {f : Nat} {fd : Field} (h : fieldOf cx s f = some fd) : ∃ fs, und cx s = some (.struct fs) ∧ fs[f]? = some fd := by
  unfold fieldOf at h
  split at h
  · rename_i fs hu; rw [nth_eq] at h; exact ⟨fs, hu, by simpa using h⟩
  · cases h
theorem field_ok {s : TypeId} {f : Nat} {x : AV} {X : Value} (hx : RA π x X) : Yields cx.P π σ w (Instr.field s X f) (fieldA cx s x f) := by
  unfold fieldA
  split
  · rename_i cs
    split
    · rename_i fd hf
      obtain ⟨fs, hu, hfd⟩ := fieldOf_und hf
      simp only [RA] at hx
      obtain ⟨A, rfl, hA⟩ := hx
      refine yields_outV fun v hv => ?_
      obtain ⟨y, hy, ry⟩ := part_ok hv hA w
      exact ⟨y, by simp [Instr.field, und_run hu, hfd, asAgg, hy], ry⟩
    · trivial
  · trivial
theorem fieldAddr_ok {s : TypeId} {f : Nat} {x : AV} {X : Value} (hx : RA π x X) : Yields cx.P π σ w (Instr.fieldAt s X f) (fieldAddrA cx s x f) := by
  unfold fieldAddrA
  split
  · rename_i p
    split
    · rename_i fd hf
      obtain ⟨fs, hu, hfd⟩ := fieldOf_und hf
      split
      · rename_i n hn
        simp only [RA] at hx
        obtain ⟨b, base, sz, hp, rfl⟩ := hx
        refine yields_val (x := .pointer (some ⟨b, base + p.2 + fd.offset, none⟩)) ?_ ?_
        · simp [Instr.fieldAt, und_run hu, hfd, Instr.sureAddr, fieldPlace, size_run hn, Addr.add_mid]
        · simp only [RA]; exact ⟨b, base, sz, hp, by simp [Nat.add_assoc]⟩
      · trivial
    · trivial
  · trivial
theorem natOf_ok {x : AV} {n : Nat} {X : Value} (h : natOf x = some n) (hx : RA π x X) : ∃ k, X = .int k n := by
  unfold natOf at h
  split at h
  · cases h; exact ⟨_, int_of hx⟩
  · cases h
theorem indexAddr_ok {t : TypeId} {x i : AV} {X I : Value} (hx : RA π x X) (hi : RA π i I) : Yields cx.P π σ w (Instr.indexAt t X I) (indexAddrA cx t x i) := by
  unfold indexAddrA
  split
  · rename_i e p len c i' hu hn
    split
    · rename_i n hsz
      rw [blt_eq]
      by_cases hlt : i' < len
      · rw [decide_eq_true hlt]
        obtain ⟨k, rfl⟩ := natOf_ok hn hi
        simp only [RA] at hx
        obtain ⟨b, base, sz, a, cp, hp, rfl, hle, hc⟩ := hx
        have ha : a = base + p.2 := by
          cases c with
          | ex c => rcases hc.2 with h | h
                    · exact h
                    · have := hc.1; omega
          | to z => rcases hc.2.2.2 with h | h
                    · exact h
                    · omega
        subst ha
        refine yields_val (x := .pointer (some ⟨b, base + p.2 + i' * n, none⟩)) ?_ ?_
        · have h1 : (0 : Int) ≤ (i' : Int) ∧ (i' : Int) < len := by omega
          simp [Instr.indexAt, asIntOf, und_run hu, size_run hsz, Addr.add_mid]
          intro h; omega
        · simp only [RA]; exact ⟨b, base, sz, hp, by simp [Nat.add_assoc]⟩
      · rw [decide_eq_false hlt]; trivial
    · trivial
  · rename_i len e p i' hu hn
    split
    · rename_i n hsz
      rw [blt_eq]
      by_cases hlt : i' < len
      · rw [decide_eq_true hlt]
        obtain ⟨k, rfl⟩ := natOf_ok hn hi
        simp only [RA] at hx
        obtain ⟨b, base, sz, hp, rfl⟩ := hx
        refine yields_val (x := .pointer (some ⟨b, base + p.2 + i' * n, none⟩)) ?_ ?_
        · have h1 : (0 : Int) ≤ (i' : Int) ∧ (i' : Int) < len := by omega
          simp [Instr.indexAt, asIntOf, und_run hu, size_run hsz, Addr.add_mid, Instr.sureAddr]
          intro h; omega
        · simp only [RA]; exact ⟨b, base, sz, hp, by simp [Nat.add_assoc]⟩
      · rw [decide_eq_false hlt]; trivial
    · trivial
  · trivial
theorem index_ok {t : TypeId} {x i : AV} {X I : Value} (hx : RA π x X) (hi : RA π i I) : Yields cx.P π σ w (Instr.index t X I) (indexA cx t x i) := by
  unfold indexA
  split
  · rename_i s i' hu hn
    split
    · rename_i b hb
      obtain ⟨k, rfl⟩ := natOf_ok hn hi
      rw [str_of hx]
      rw [nth_eq] at hb
      have hb' : s[i']? = some b := by
        have : s.data[i']? = some b := by simpa [bytesOf] using hb
        have hlt : i' < s.data.size := by
          rcases Nat.lt_or_ge i' s.data.size with h | h
          · exact h
          · rw [Array.getElem?_eq_none h] at this; cases this
        have hlt' : i' < s.size := hlt
        rw [Array.getElem?_eq_getElem hlt] at this
        rw [getElem?_pos s i' hlt']
        exact this
      refine yields_val (x := .int .u8 b.toNat) ?_ (RA_int _ _)
      simp [Instr.index, asIntOf, und_run hu, hb']
    · trivial
  · rename_i len e cs i' hu hn
    split
    · rename_i n hsz
      rw [blt_eq]
      by_cases hlt : i' < len
      · rw [decide_eq_true hlt]
        obtain ⟨k, rfl⟩ := natOf_ok hn hi
        simp only [RA] at hx
        obtain ⟨A, rfl, hA⟩ := hx
        refine yields_outV fun v hv => ?_
        obtain ⟨y, hy, ry⟩ := part_ok hv hA w
        have h1 : (0 : Int) ≤ (i' : Int) ∧ (i' : Int) < len := by omega
        exact ⟨y, by simp [Instr.index, asIntOf, und_run hu, size_run hsz, hy]; intro h; omega, ry⟩
      · rw [decide_eq_false hlt]; trivial
    · trivial
  · trivial
end Go.Run
