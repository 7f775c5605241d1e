import Derived.Test.YtkikpolmfaiabaaGreatDoorRunS23
namespace Go.Run
variable {cx : Cx} {π : Pl} {σ : St} {w : World} {env : Env} {a : Act} {call : CallF}

theorem builtin_sound {next : Act → World → Prop} {Q : Exit → Act → World → Prop} {dst : Option Tmp} {type : TypeId} {pos : String} {after : Array Edge} {guard : Option (Nat × Bool)}
    (hR : R π σ w) (hE : RE π env a) {args : Array Operand} {argTypes : Array TypeId} {b : Builtin}
    (h : Conts ⟨dst, .call ⟨.builtin b, args, argTypes⟩, type, pos, after, guard⟩ π σ w a next (builtT b cx argTypes.toList (evList env args.toList) σ)) :
    Oper.wp cx.P ⟨dst, .call ⟨.builtin b, args, argTypes⟩, type, pos, after, guard⟩ a w next Q := by
  have hargs : RT π (evList env args.toList) (args.map a.eval).toList := by simpa using evList_ok hE args.toList
  have he : ∃ consts, execOp a.eval ⟨dst, .call ⟨.builtin b, args, argTypes⟩, type, pos, after, guard⟩ = builtin b argTypes type consts (args.map a.eval) := ⟨_, rfl⟩
  obtain ⟨consts, he⟩ := he
  cases b with
  | append => exact wp_value (s := Builtin.append_ argTypes type (args.map a.eval)) (he.trans rfl) (append_ok hR hargs) h
  | copy => exact wp_value (s := Builtin.copy_ argTypes type (args.map a.eval)) (he.trans rfl) (copy_ok hR hargs) h
  | len => exact wp_value (s := Builtin.len_ argTypes type (args.map a.eval)) (he.trans rfl) (len_ok hR hargs) h
  | cap => exact wp_value (s := Builtin.cap_ argTypes type (args.map a.eval)) (he.trans rfl) (cap_ok hR hargs) h
  | min => exact wp_value (s := Builtin.min_ argTypes type (args.map a.eval)) (he.trans rfl) (min_ok hargs) h
  | max => exact wp_value (s := Builtin.max_ argTypes type (args.map a.eval)) (he.trans rfl) (max_ok hargs) h
  | delete => exact wp_value (s := Builtin.delete_ argTypes type (args.map a.eval)) (he.trans rfl) (delete_ok hR hargs) h
  | unsafeSliceData => exact wp_value (s := Builtin.unsafeSliceData_ argTypes type (args.map a.eval)) (he.trans rfl) (sliceData_ok hargs) h
  | unsafeString => exact wp_value (s := Builtin.unsafeString_ argTypes type (args.map a.eval)) (he.trans rfl) (string_ok hR hargs) h
  | _ => exact h.elim

theorem op_sound {o : Oper} {next : Act → World → Prop} {Q : Exit → Act → World → Prop} (hx : ExtOk cx) (hc : CallOk cx call) (hR : R π σ w) (hE : RE π env a) (hG : GlobOk cx π)
    (h : Conts o π σ w a next (opT o.op cx call env σ)) : o.wp cx.P a w next Q := by
  obtain ⟨dst, op, type, pos, after, guard⟩ := o
  cases op with
  | move x => exact wp_pure rfl (evA_ok hE x) h
  | assign x => exact wp_pure rfl (evA_ok hE x) h
  | pick c x y =>
    simp only [opT, fPick] at h
    split at h
    · rename_i t hc
      have hv := evA_ok hE c
      rw [hc] at hv
      simp only [RA] at hv
      have hv' : a.eval c = .bool t := hv
      have he : execOp a.eval ⟨dst, .pick c x y, type, pos, after, guard⟩ = pure (.value (if t then a.eval x else a.eval y)) := by
        simp [execOp, hv', asBool]
      refine wp_pure he ?_ h
      cases t
      · exact evA_ok hE y
      · exact evA_ok hE x
    · exact h.elim
  | alloc e => exact wp_value rfl alloc_ok h
  | box e x => exact wp_value rfl (box_ok (evA_ok hE x)) h
  | build t ps =>
    have hb := build_ok (cx := cx) (π := π) (σ := σ) (w := w) (t := t) (ps := evParts env ps.toList) (qs := ps.map fun p => (p.1, a.eval p.2)) (by simpa using evParts_ok hE ps.toList)
    have he : execOp a.eval ⟨dst, .build t ps, type, pos, after, guard⟩ = (do pure (.value (← Instr.build t (ps.map fun p => (p.1, a.eval p.2))))) := rfl
    exact wp_value he hb h
  | buildSlice t n ps =>
    have hb := buildSlice_ok (cx := cx) (π := π) (σ := σ) (w := w) (t := t) (len := n) (ps := evParts env ps.toList) (qs := ps.map fun p => (p.1, a.eval p.2)) (by simpa using evParts_ok hE ps.toList)
    have he : execOp a.eval ⟨dst, .buildSlice t n ps, type, pos, after, guard⟩ = (do pure (.value (← Instr.buildSlice t n (ps.map fun p => (p.1, a.eval p.2))))) := rfl
    exact wp_value he hb h
  | load t x => exact wp_value rfl (yields_outV fun v hv => load_ok hR hv (evA_ok hE x)) h
  | store t x v => exact wp_unit rfl (store_ok hR (evA_ok hE x) (evA_ok hE v)) h
  | nilCheck x =>
    simp only [opT, fNilCheck] at h
    split at h
    · rename_i p hp
      have hv := evA_ok hE x
      rw [hp] at hv
      simp only [RA] at hv
      obtain ⟨b, base, sz, k1, k2⟩ := id hv
      have he : execOp a.eval ⟨dst, .nilCheck x, type, pos, after, guard⟩ = pure (.value (a.eval x)) := by
        simp only [execOp, k2]
      refine wp_pure he ?_ h
      simp only [RA]; exact hv
    · exact h.elim
  | binOp op t x y _ => exact wp_value rfl (bin_ok (evA_ok hE x) (evA_ok hE y)) h
  | unOp op t x => exact wp_value rfl (un_ok (evA_ok hE x)) h
  | convert s d x => exact wp_value rfl (conv_ok hR (evA_ok hE x)) h
  | makeFunc fn fs cs =>
    simp only [opT, fMakeFunc] at h
    split at h
    · rename_i f
      cases hfs : fs.toList.isEmpty with
      | false => rw [hfs] at h; exact h.elim
      | true =>
        rw [hfs] at h
        simp only [cond_true] at h
        split at h
        · rename_i l hl
          have hargs : RT π (evList env cs.toList) (cs.map a.eval).toList := by simpa using evList_ok hE cs.toList
          have hps := capsOf_ok hl hargs
          have hfs' : fs = #[] := by simpa using hfs
          subst hfs'
          refine wp_pure (x := .func (.func f) #[] (cs.map a.eval)) (by simp [execOp, Instr.makeFunc]) ?_ h
          simp only [RA]
          exact ⟨_, rfl, hps⟩
        · exact h.elim
    · exact h.elim
  | makeMap t r => exact wp_value rfl (makeMap_ok (call := call) hE) h
  | makeSlice t l c => exact wp_value rfl (makeSlice_ok (evA_ok hE l) (evA_ok hE c)) h
  | slice t x lo hi mx => exact wp_value rfl (slice_ok hR hE) h
  | fieldAddr s x f => exact wp_value rfl (fieldAddr_ok (evA_ok hE x)) h
  | field s x f => exact wp_value rfl (field_ok (evA_ok hE x)) h
  | indexAddr t x i => exact wp_value rfl (indexAddr_ok (evA_ok hE x) (evA_ok hE i)) h
  | index t x i => exact wp_value rfl (index_ok (evA_ok hE x) (evA_ok hE i)) h
  | lookup t x k ok => exact wp_value rfl (lookup_ok hR (evA_ok hE x) (evA_ok hE k)) h
  | mapUpdate t m k v => exact wp_unit rfl (mapUpdate_ok hR (evA_ok hE m) (evA_ok hE k) (evA_ok hE v)) h
  | mapEntry t m k => exact wp_value rfl (mapEntry_ok hR (evA_ok hE m) (evA_ok hE k)) h
  | entryStore t m s v => exact wp_unit rfl (entryStore_ok hR (evA_ok hE m) (evA_ok hE s) (evA_ok hE v)) h
  | extract x i => exact wp_value rfl (extract_ok (evA_ok hE x)) h
  | call c =>
    obtain ⟨callee, args, argTypes⟩ := c
    cases callee with
    | value f => exact callV_ok (c := ⟨.value f, args, argTypes⟩) hx hc hR hG rfl rfl hE h
    | invoke r m => exact h.elim
    | builtin b =>
      exact builtin_sound hR hE h
  | _ => exact h.elim
end Go.Run
