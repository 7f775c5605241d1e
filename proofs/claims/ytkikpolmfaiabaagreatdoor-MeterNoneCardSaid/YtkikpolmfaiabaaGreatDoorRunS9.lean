import Derived.Test.YtkikpolmfaiabaaGreatDoorRunS8
namespace Go.Run
variable {cx : Cx} {π : Pl} {σ : St} {w : World} {env : Env} {a : Act}

theorem range_self (vs : List Value) : ((List.range vs.length).map fun i => vs[i % vs.length]!) = vs := by
  apply List.ext_getElem?
  intro i
  by_cases h : i < vs.length
  · simp [h, Nat.mod_eq_of_lt h]
  · simp [h]
theorem rep_ok {z : List CV} {vs : List Value} (h : RL π z vs) : ∀ (n : Nat), RL π (repN n z) ((List.range (n * vs.length)).map fun i => vs[i % vs.length]!)
  | 0 => by simp [repN, RL]
  | n + 1 => by
    rw [repN, show (n + 1) * vs.length = vs.length + n * vs.length by rw [Nat.add_mul]; omega, List.range_add, List.map_append, range_self]
    refine h.append ?_
    have e : ((fun i => vs[i % vs.length]!) ∘ fun x => vs.length + x) = fun i => vs[i % vs.length]! := by funext i; simp
    rw [List.map_map, e]
    exact rep_ok h n
theorem zeroRow_ok {e : TypeId} {sz n : Nat} {z : List CV} (h : rowOf cx e sz n = some z) (hs : sz ≠ 0) (π : Pl) (w : World) :
    ∃ zs : Array Value, (n * sz = 0 → zs = #[]) ∧ (n * sz ≠ 0 → ∃ v, (zeroValue e).run cx.P w = .ok v w ∧ zs = v.cells) ∧ RL π z ((Array.range (n * sz)).map (zs[· % zs.size]!)).toList ∧ ((Array.range (n * sz)).map (zs[· % zs.size]!)).size = n * sz := by
  unfold rowOf at h
  rw [beq_eq] at h
  by_cases hn : n = 0
  · subst hn
    simp at h; subst h
    exact ⟨#[], fun _ => rfl, fun h => absurd (by simp) h, by simp [RL], by simp⟩
  · rw [decide_eq_false hn] at h
    simp only [cond_false] at h
    split at h
    · rename_i z0 hz
      rw [beq_eq] at h
      by_cases hl : lenN z0 = sz
      · rw [decide_eq_true hl] at h
        cases h
        obtain ⟨v, hv, hr⟩ := zeroCells_run hz π w
        have hlen := hr.length
        rw [lenN_eq] at hl
        have hsz : v.cells.size = sz := by simp at hlen; omega
        have hne : ¬ (n * sz = 0) := by intro e; rcases Nat.mul_eq_zero.1 e with h | h <;> omega
        refine ⟨v.cells, fun h => absurd h hne, fun _ => ⟨v, hv, rfl⟩, ?_, by simp⟩
        have := rep_ok hr n
        simp only [Array.length_toList, hsz] at this
        have e : (fun x => v.cells[x % sz]!) = fun i => v.cells.toList[i % sz]! := by funext x; simp only [getElem!_def]; simp
        rw [Array.toList_map, Array.toList_range, hsz, e]
        exact this
      · rw [decide_eq_false hl] at h; cases h
    · cases h
theorem slice_new_val {π : Pl} {w : World} {l cp z : Nat} (hz : 0 < z) (hl : l ≤ cp) (i : Nat) : RA (π.upd i (w.heap.size, 0, cp * z)) (.one (.slice (some (i, 0)) l (.to z))) (.slice (some ⟨w.heap.size, 0, none⟩) l cp) := by
  simp only [RA]
  exact ⟨w.heap.size, 0, cp * z, 0, cp, Pl.upd_same _ _ _, rfl, hl, hz, by omega, by simp, .inl rfl⟩
theorem newOk_slice {l : List CV} {cs : Array Value} (h : RL π l cs.toList) (e : TypeId) {n cp z : Nat} (hz : 0 < z) (hn : n ≤ cp) (hv : cs.size = cp * z) :
    NewOk π w (w.alloc (.cells cs e)) (w.heap.size, 0, cp * z) (.cells l e true) (fun i => .one (.slice (some (i, 0)) n (.to z))) (.slice (some ⟨w.heap.size, 0, none⟩) n cp) := by
  have := newOk_row (w := w) h e [] (ex := true) (fun _ => rfl) (f := fun i => .one (.slice (some (i, 0)) n (.to z))) (v := .slice (some ⟨w.heap.size, 0, none⟩) n cp) (fun i _ => by
    simp only [List.length_nil, Nat.add_zero, Array.length_toList, hv]; exact slice_new_val hz hn i)
  simpa [hv] using this

theorem buildSlice_ok {t : TypeId} {len : Nat} {ps : List (Nat × AV)} {qs : Array (Nat × Value)} (h : RPart π ps qs.toList) : Yields cx.P π σ w (Instr.buildSlice t len qs) (buildSliceA cx t len ps) := by
  unfold buildSliceA
  split
  · rename_i e hu
    split
    · rename_i n hn
      rw [ble_eq]
      by_cases hl : len * (n + 1) ≤ 16777216
      · rw [decide_eq_true hl]
        simp only [cond_true]
        split
        · rename_i z hz
          split
          · rename_i l hf
            obtain ⟨zs, z1, z2, h2, h3⟩ := zeroRow_ok hz (by omega) π w
            obtain ⟨cs', g1, g2⟩ := fill_ok ps z l qs.toList _ hf h h2
            have hsz : cs'.size = len * (n + 1) := by
              have e1 := g2.length
              have e2 := h2.length
              have e3 : l.length = z.length := by
                clear z1 z2 h2 h3 g1 g2 e1 e2
                have : ∀ (ps : List (Nat × AV)) (z l : List CV), fillA (fun i => some (i * (n + 1), n + 1)) z ps = some l → l.length = z.length := by
                  intro ps
                  induction ps with
                  | nil => intro z l h; simp [fillA] at h; subst h; rfl
                  | cons p r ih =>
                    intro z l h
                    obtain ⟨i, v⟩ := p
                    simp only [fillA] at h
                    split at h
                    · cases hc : Nat.beq (lenN _) _ <;> rw [hc] at h
                      · cases h
                      · simp only [cond_true] at h
                        split at h
                        · rename_i l' hl'
                          obtain ⟨rfl, hle⟩ := over_eq _ _ _ _ hl'
                          have := ih _ _ h
                          rw [this]; simp; omega
                        · cases h
                    · cases h
                exact this ps z l hf
              simp at e1 e2; simp at h3; omega
            refine ⟨_, _, _, ?_, newOk_slice (cp := len) (z := n + 1) g2 e (by omega) (Nat.le_refl _) hsz⟩
            have hgt : ¬ (len * (n + 1) > 2 ^ 24) := by omega
            simp only [Instr.buildSlice, Sem.run_bind, und_run hu, Result.andThen_ok, size_run hn, Sem.run_ite, hgt, if_false, Sem.run_pure]
            by_cases h0 : len * (n + 1) = 0
            · have := z1 h0; subst this
              rw [if_pos h0]
              have g1' : Instr.fill (fun i => some (i * n.succ, n.succ)) (Array.map (fun x => #[][x % (#[] : Array Value).size]!) (Array.range (len * n.succ))) qs.toList = some cs' := g1
              rw [g1']
              simp [newRow, World.alloc_eq]
            · obtain ⟨v, hv, rfl⟩ := z2 h0
              rw [if_neg h0]
              simp only [hv, Result.andThen_ok]
              have g1' : Instr.fill (fun i => some (i * n.succ, n.succ)) (Array.map (fun x => v.cells[x % v.cells.size]!) (Array.range (len * n.succ))) qs.toList = some cs' := g1
              rw [g1']
              simp [newRow, World.alloc_eq]
          · trivial
        · trivial
      · rw [decide_eq_false hl]; trivial
    · trivial
  · trivial
theorem wrap64_id {n : Nat} (h : n ≤ 4611686018427387904) : IntKind.i64.wrap (n : Int) = n := by
  rw [← wrapA_ok]
  show wrapS 9223372036854775808 18446744073709551616 (n : Int) = n
  have : wrapS 9223372036854775808 18446744073709551616 (n : Int) = bif Nat.ble 9223372036854775808 (n % 18446744073709551616) then Int.subNatNat (n % 18446744073709551616) 18446744073709551616 else .ofNat (n % 18446744073709551616) := rfl
  rw [this, Nat.mod_eq_of_lt (by omega), ble_eq, decide_eq_false (by omega)]
  rfl
theorem makeSlice_ok {t : TypeId} {l c : AV} {L C : Value} (hl : RA π l L) (hc : RA π c C) : Yields cx.P π σ w (Instr.makeSlice t L C) (makeSliceA cx t l c) := by
  unfold makeSliceA
  split
  · rename_i e hu
    split
    · rename_i l' c' hl' hc'
      split
      · rename_i i hi
        simp only [ble_eq, beq_eq]
        by_cases h1 : i.bytes * c' ≤ 140737488355328
        · by_cases h2 : l' ≤ c'
          · by_cases h3 : c' ≤ 4611686018427387904
            · by_cases h4 : i.size = 0
              · rw [decide_eq_true h4]; simp; trivial
              · rw [decide_eq_true h1, decide_eq_true h2, decide_eq_true h3, decide_eq_false h4]
                simp only [Bool.and_self, Bool.not_false, cond_true]
                split
                · rename_i z hz
                  obtain ⟨k1, rfl⟩ := natOf_ok hl' hl
                  obtain ⟨k2, rfl⟩ := natOf_ok hc' hc
                  obtain ⟨zs, z1, z2, g2, g3⟩ := zeroRow_ok hz h4 π w
                  refine ⟨_, _, _, ?_, newOk_slice (cp := c') (z := i.size) g2 e (by omega) h2 g3⟩
                  have w1 : IntKind.i64.wrap (l' : Int) = l' := wrap64_id (by omega)
                  have w2 : IntKind.i64.wrap (c' : Int) = c' := wrap64_id h3
                  have hb : (i.bytes : Int) * (c' : Int) ≤ 2 ^ 48 := by
                    have := Int.ofNat_le.2 h1
                    rw [Int.natCast_mul] at this
                    omega
                  have hc0 : ¬ ((c' : Int) < 0) := by omega
                  have hb' : ¬ ((i.bytes : Int) * (c' : Int) > 2 ^ 48) := by omega
                  have hl0 : ¬ ((l' : Int) < 0) := by omega
                  have hlc : ¬ ((l' : Int) > (c' : Int)) := by omega
                  have hsize : (sizeOf e).run cx.P w = .ok i.size w := size_run (by simp [size, hi]) w
                  have hti : (typeInfo e).run cx.P w = .ok i w := by simp [typeInfo, hi]
                  simp only [Instr.makeSlice, Sem.run_bind, und_run hu, Result.andThen_ok, asInt, asIntOf, Sem.run_pure, hti, w1, w2]
                  simp only [hc0, hb', hl0, hlc, decide_false, Bool.or_self, Bool.false_eq_true, if_false, or_self, Sem.run_bind, run_askRoom, Result.andThen_ok, hsize, Int.toNat_natCast, Sem.run_ite, Sem.run_pure]
                  by_cases h0 : c' * i.size = 0
                  · have := z1 h0; subst this
                    rw [if_pos h0]
                    simp [newRow, World.alloc_eq]
                  · obtain ⟨v, hv, rfl⟩ := z2 h0
                    rw [if_neg h0]
                    simp [hv, newRow, World.alloc_eq]
                · trivial
            · rw [decide_eq_false h3]; simp; trivial
          · rw [decide_eq_false h2]; simp; trivial
        · rw [decide_eq_false h1]; simp; trivial
      · trivial
    · trivial
  · trivial
end Go.Run
