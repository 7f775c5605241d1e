import Derived.Test.YtkikpolmfaiabaaGreatDoorRunS7
namespace Go.Run
variable {cx : Cx} {π : Pl} {σ : St} {w : World} {env : Env} {a : Act}

/-! Structs, arrays and slices out of parts. -/
def RPart (π : Pl) : List (Nat × AV) → List (Nat × Value) → Prop
  | [], [] => True
  | p :: l, v :: r => p.1 = v.1 ∧ RA π p.2 v.2 ∧ RPart π l r
  | _, _ => False
theorem evParts_ok (e : RE π env a) : ∀ (ps : List (Nat × Operand)), RPart π (evParts env ps) (ps.map fun p => (p.1, a.eval p.2))
  | [] => trivial
  | (_, x) :: r => ⟨rfl, evA_ok e x, evParts_ok e r⟩
theorem evList_ok (e : RE π env a) : ∀ (ps : List Operand), RT π (evList env ps) (ps.map a.eval)
  | [] => by simp [evList, RT]
  | x :: r => by simp only [evList, List.map_cons, RT]; exact ⟨evA_ok e x, evList_ok e r⟩

theorem lay_eq (vs : List Value) (off : Nat) : ∀ (k : Nat) (cs : Array Value), off + k + vs.length ≤ cs.size →
    ((vs.zipIdx k).foldl (fun cs (c, j) => cs.setIfInBounds (off + j) c) cs).toList = cs.toList.take (off + k) ++ vs ++ cs.toList.drop (off + k + vs.length) := by
  induction vs with
  | nil => intro k cs h; simp
  | cons v r ih =>
    intro k cs h
    simp at h
    simp only [List.zipIdx_cons, List.foldl_cons]
    rw [ih (k + 1) (cs.setIfInBounds (off + k) v) (by simp; omega)]
    simp only [Array.toList_setIfInBounds]
    have h1 : off + (k + 1) = off + k + 1 := by omega
    have h2 : off + k < cs.toList.length := by simp; omega
    have h3 : (cs.toList.set (off + k) v).take (off + k + 1) = cs.toList.take (off + k) ++ [v] := by
      rw [List.take_add_one, List.getElem?_set_self h2, List.take_set_of_le (Nat.le_refl _)]; rfl
    rw [h1, h3, List.drop_set_of_lt (by omega)]
    have h4 : off + k + (v :: r).length = off + k + 1 + r.length := by simp; omega
    rw [h4]; simp

theorem fill_ok {place : Nat → Option (Nat × Nat)} : ∀ (ps : List (Nat × AV)) (l m : List CV) (qs : List (Nat × Value)) (cs : Array Value), fillA place l ps = some m → RPart π ps qs → RL π l cs.toList →
    ∃ cs', Instr.fill place cs qs = some cs' ∧ RL π m cs'.toList
  | [], l, m, [], cs, h, _, hl => by simp [fillA] at h; subst h; exact ⟨cs, rfl, hl⟩
  | (i, v) :: ps, l, m, (j, x) :: qs, cs, h, hp, hl => by
    obtain ⟨hij, hx, hr⟩ := hp
    simp only at hij; subst hij
    simp only [fillA] at h
    split at h
    · rename_i off sz us hpl hus
      rw [beq_eq] at h
      by_cases hsz : lenN us = sz
      · rw [decide_eq_true hsz] at h
        simp only [cond_true] at h
        split at h
        · rename_i l' hl'
          obtain ⟨rfl, hle⟩ := over_eq _ _ _ _ hl'
          have hc := cells_ok hus hx
          rw [lenN_eq] at hsz
          have hlen := hc.length
          have hll := hl.length
          simp at hlen hll
          have hlay := lay_eq x.cells.toList off 0 cs (by simp; omega)
          simp only [Nat.add_zero] at hlay
          have hnew : RL π (l.take off ++ us ++ l.drop (off + us.length)) ((x.cells.zipIdx.foldl (fun cs (c, j) => cs.setIfInBounds (off + j) c) cs).toList) := by
            have e : x.cells.zipIdx.foldl (fun cs (c, j) => cs.setIfInBounds (off + j) c) cs = (x.cells.toList.zipIdx 0).foldl (fun cs (c, j) => cs.setIfInBounds (off + j) c) cs := by
              rw [← Array.foldl_toList, Array.toList_zipIdx]
            rw [e, hlay, show off + x.cells.toList.length = off + us.length by simp; omega]
            exact ((hl.take off).append hc).append (hl.drop _)
          obtain ⟨cs', h1, h2⟩ := fill_ok ps _ m qs _ h hr hnew
          refine ⟨cs', ?_, h2⟩
          simp only [Instr.fill, hpl]
          rw [if_neg]
          · exact h1
          · simp; omega
        · cases h
      · rw [decide_eq_false hsz] at h; cases h
    · cases h
  | [], _, _, _ :: _, _, _, h, _ => h.elim
  | _ :: _, _, _, [], _, _, h, _ => h.elim

theorem places_ok (w : World) : ∀ (fs : List Field) (pl : List (Nat × Nat)), places cx fs = some pl → (fs.mapM fun f => do pure (f.offset, ← sizeOf f.type) : Sem (List (Nat × Nat))).run cx.P w = .ok pl w
  | [], pl, h => by simp [places] at h; subst h; rfl
  | f :: r, pl, h => by
    simp only [places] at h
    split at h
    · rename_i n l hn hl
      cases h
      simp only [List.mapM_cons, Sem.run_bind, size_run hn, Result.andThen_ok, Sem.run_pure, places_ok w r l hl]
    · cases h

theorem build_ok {t : TypeId} {ps : List (Nat × AV)} {qs : Array (Nat × Value)} (h : RPart π ps qs.toList) : Yields cx.P π σ w (Instr.build t qs) (buildA cx t ps) := by
  unfold buildA
  split
  · trivial
  · rename_i z hz
    obtain ⟨v, hv, hr⟩ := zeroCells_run hz π w
    split
    · rename_i fields hu
      split
      · rename_i pl hpl
        unfold aggO
        split
        · rename_i m hm
          have hm' : fillA (fun i => pl.toArray[i]?) z ps = some m := by
            have : (fun i => nth pl i) = fun i => pl.toArray[i]? := by funext i; rw [nth_eq]; simp
            rw [← this]; exact hm
          obtain ⟨cs', h1, h2⟩ := fill_ok ps z m qs.toList v.cells hm' h hr
          refine yields_val (x := .agg cs') ?_ (by simp only [RA]; exact ⟨_, rfl, h2⟩)
          have hp := places_ok w fields.toList pl hpl
          have hp' : (fields.mapM fun f => do pure (f.offset, ← sizeOf f.type) : Sem (Array (Nat × Nat))).run cx.P w = .ok pl.toArray w := by
            rw [Array.mapM_eq_mapM_toList]
            simp only [Sem.run_map, hp, Result.andThen_ok]
          simp only [Instr.build, Sem.run_bind, hv, Result.andThen_ok, und_run hu, hp', h1]
          rfl
        · trivial
      · trivial
    · rename_i len e hu
      split
      · rename_i n hn
        unfold aggO
        split
        · rename_i m hm
          obtain ⟨cs', h1, h2⟩ := fill_ok ps z m qs.toList v.cells hm h hr
          refine yields_val (x := .agg cs') ?_ (by simp only [RA]; exact ⟨_, rfl, h2⟩)
          simp only [Instr.build, Sem.run_bind, hv, Result.andThen_ok, und_run hu, size_run hn, h1]
          rfl
        · trivial
      · trivial
    · trivial
end Go.Run
