import Derived.Test.YtkikpolmfaiabaaGreatDoorRunS12
namespace Go.Run
variable {cx : Cx} {π : Pl} {σ : St} {w : World} {env : Env} {a : Act}

/-- a block is known by another number from here on -/
theorem R.remap (h : R π σ w) {i : Nat} {bi blk : Blk} (hi : σ.get i = some bi) {x y : Nat × Nat × Nat} (hx : π i = some x) (hy : y.1 = x.1) {w' : World} (hs : w'.heap.size = w.heap.size) (ho : ∀ b, b ≠ x.1 → w'.heap[b]? = w.heap[b]?) (hb : RB π w' y blk) (hsame : Same w w') :
    R (π.upd σ.next y) ((σ.kill i).push blk) w' ∧ Go π σ w (π.upd σ.next y) ((σ.kill i).push blk) w' := by
  have h0 := h.next_none (Nat.le_refl _)
  have hle := Pl.le_upd h0 y
  have hin := h.lt i x hx
  have hget : ∀ {j bj}, ((σ.kill i).push blk).get j = some bj → (j = σ.next ∧ bj = blk) ∨ (j ≠ σ.next ∧ j ≠ i ∧ σ.get j = some bj) := fun {j bj} hj => by
    rw [St.get_push] at hj
    by_cases e : j = (σ.kill i).next
    · rw [if_pos e] at hj; cases hj; exact .inl ⟨e, rfl⟩
    · rw [if_neg e, St.get_kill] at hj
      by_cases e2 : j = i
      · rw [if_pos e2] at hj; cases hj
      · rw [if_neg e2] at hj; exact .inr ⟨e, e2, hj⟩
  refine ⟨⟨fun j bj hj => ?_, fun j k bj bk u v hj hk hu hv hne => ?_, fun j u hu => ?_⟩, ⟨fun j hj => Pl.upd_other _ _ (by omega), Nat.le_succ _, by omega, fun b hb' hn => ho b fun e => hn ⟨i, bi, x, hi, hx, e.symm⟩, fun b hb' hown => ?_, hsame⟩⟩
  · rcases hget hj with ⟨rfl, rfl⟩ | ⟨e1, e2, hj⟩
    · exact ⟨y, Pl.upd_same _ _ _, hb.mono hle⟩
    · obtain ⟨u, hu, hbj⟩ := h.blk j bj hj
      exact ⟨u, by rw [Pl.upd_other _ _ e1]; exact hu, (hbj.congr (ho _ (h.inj j i bj bi u x hj hi hu hx e2))).mono hle⟩
  · rcases hget hj with ⟨hj1, hj2⟩ | ⟨e1, e2, hj2⟩
    · subst hj1
      rw [Pl.upd_same] at hu; cases hu
      rcases hget hk with ⟨hk1, hk2⟩ | ⟨f1, f2, hk2⟩
      · exact absurd hk1.symm hne
      · rw [Pl.upd_other _ _ f1] at hv
        rw [hy]; exact fun e => h.inj k i bk bi v x hk2 hi hv hx f2 e.symm
    · rw [Pl.upd_other _ _ e1] at hu
      rcases hget hk with ⟨hk1, hk2⟩ | ⟨f1, f2, hk2⟩
      · subst hk1
        rw [Pl.upd_same] at hv; cases hv
        rw [hy]; exact h.inj j i bj bi u x hj2 hi hu hx e2
      · rw [Pl.upd_other _ _ f1] at hv
        exact h.inj j k bj bk u v hj2 hk2 hu hv hne
  · by_cases e : j = σ.next
    · subst e; exact Nat.lt_succ_self _
    · rw [Pl.upd_other _ _ e] at hu; exact Nat.lt_succ_of_lt (h.lt j u hu)
  · obtain ⟨j, bj, u, hj, hu, rfl⟩ := hown
    rcases hget hj with ⟨rfl, rfl⟩ | ⟨e1, e2, hj⟩
    · rw [Pl.upd_same] at hu; cases hu; exact ⟨i, bi, x, hi, hx, hy.symm⟩
    · rw [Pl.upd_other _ _ e1] at hu; exact ⟨j, bj, u, hj, hu, rfl⟩

theorem growBy_le (need : Nat) : ∀ (rounds c : Nat), c ≤ 2 * need + 192 → Builtin.growBy need rounds c ≤ 2 * need + 192
  | 0, c, h => by simpa [Builtin.growBy] using h
  | r + 1, c, h => by
    simp only [Builtin.growBy]
    split
    · exact h
    · exact growBy_le need r _ (by omega)
theorem nextslicecap_le (need cp : Nat) (h : cp < need) : Builtin.nextslicecap need cp ≤ 2 * need + 192 := by
  unfold Builtin.nextslicecap
  split
  · omega
  · split
    · omega
    · exact growBy_le _ _ _ (by omega)
theorem zeroCells_size (z : Array Value) (n : Nat) : (Builtin.zeroCells z n).size = n * z.size := by simp [Builtin.zeroCells]
theorem rowOne {e : TypeId} {sz : Nat} {z : List CV} (h : rowOf cx e sz 1 = some z) (π : Pl) (w : World) : ∃ v, (zeroValue e).run cx.P w = .ok v w ∧ v.cells.size = sz := by
  unfold rowOf at h
  have : Nat.beq 1 0 = false := rfl
  rw [this] at h
  simp only [cond_false] at h
  split at h
  · rename_i z0 hz
    rw [beq_eq] at h
    by_cases hl : lenN z0 = sz
    · obtain ⟨v, hv, hr⟩ := zeroCells_run hz π w
      refine ⟨v, hv, ?_⟩
      have := hr.length
      rw [lenN_eq] at hl
      simp at this; omega
    · rw [decide_eq_false hl] at h; cases h
  · cases h

theorem noInt_run {ts : Array TypeId} {t : TypeId} {r : List TypeId} (h : ts.toList = t :: r) (hn : noInt cx r = true) (w : World) :
    (match ts[1]? with | some xType => do pure ((← underlying xType) matches .int _) | none => pure false : Sem Bool).run cx.P w = .ok false w := by
  cases r with
  | nil =>
    have : ts[1]? = none := by
      have : ts.toList[1]? = none := by rw [h]; rfl
      simpa using this
    rw [this]; rfl
  | cons u r =>
    have : ts[1]? = some u := by
      have : ts.toList[1]? = some u := by rw [h]; rfl
      simpa using this
    rw [this]
    simp only [noInt] at hn
    split at hn
    · cases hn
    · cases hn
    · rename_i d h1 h2
      cases hu : und cx u with
      | none => exact absurd hu h2
      | some d =>
        simp only [Sem.run_bind, und_run hu, Result.andThen_ok]
        cases d <;> first | rfl | exact absurd hu (h1 _)
end Go.Run
