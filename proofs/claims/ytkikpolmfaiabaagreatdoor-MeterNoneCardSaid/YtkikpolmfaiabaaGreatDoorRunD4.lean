import Derived.Test.YtkikpolmfaiabaaGreatDoorRunD3
namespace Go.Run
section
variable {r : Rg} {D : Nat → Bool} {T1 T2 : List Ev} {ev : Ev}

/-! The state. -/
theorem Split.st_one (s : Split r D T1 ev T2) : stD D (T1 ++ ev :: T2) r.σ0 = stD D T1 r.σ0 := by
  simp only [stD, List.foldl_append, List.foldl_cons]
  rw [foldl_id T2 (fun e he b => by
    unfold stStep
    split
    · rename_i σ' hk; rw [s.eff e he σ' hk]; simp
    · rfl)]
  unfold stStep
  split
  · rw [s.new]; simp
  · rfl

theorem Split.st_same (s : Split r D T1 ev T2) (hk : ∀ σ, ev.kind ≠ .eff σ) : stD (plus D ev.i) (T1 ++ ev :: T2) r.σ0 = stD D (T1 ++ ev :: T2) r.σ0 := by
  have e1 : ∀ e ∈ T1, ∀ b, stStep (plus D ev.i) b e = stStep D b e := fun e he b => by simp only [stStep]; rw [plus_ne (s.one e he).1]
  have e2 : ∀ e ∈ T2, ∀ b, stStep (plus D ev.i) b e = stStep D b e := fun e he b => by simp only [stStep]; rw [plus_ne (s.two e he).1]
  simp only [stD, List.foldl_append, List.foldl_cons]
  rw [foldl_same T1 e1, foldl_same T2 e2]
  have : ∀ D b, stStep D b ev = b := fun D b => by
    unfold stStep
    split
    · rename_i σ' h; exact absurd h (hk σ')
    · rfl
  rw [this, this]

theorem Split.st_top (s : Split r D T1 ev T2) (ha : ∀ e ∈ T1, D e.i = true) : stD D (T1 ++ ev :: T2) r.σ0 = stD top T1 r.σ0 := by
  rw [s.st_one]
  exact foldl_same T1 (fun e he b => by simp only [stStep, ha e he, top]) _

theorem Split.st_eff (s : Split r D T1 ev T2) {σ' : St} (hk : ev.kind = .eff σ') : stD (plus D ev.i) (T1 ++ ev :: T2) r.σ0 = σ' := by
  simp only [stD, List.foldl_append, List.foldl_cons]
  rw [foldl_id T2 (fun e he b => by
    unfold stStep
    split
    · rename_i τ h; rw [plus_ne (s.two e he).1, s.eff e he τ h]; simp
    · rfl)]
  simp only [stStep, hk, plus_eq, if_true]

/-! The blocks on top of it. -/
theorem xs_mem {base : Nat} : ∀ (L : List Ev) (acc : List (Nat × Blk)) (p : Nat × Blk), p ∈ L.foldl (xsStep D base) acc → p ∈ acc ∨ ∃ e ∈ L, p.1 = base + e.i
  | [], acc, p, h => .inl h
  | e :: L, acc, p, h => by
    rcases xs_mem L _ p h with h | ⟨x, hx, h⟩
    · unfold xsStep at h
      split at h
      · split at h
        · cases h
        · exact .inl h
      · split at h
        · rcases List.mem_append.1 h with h | h
          · exact .inl h
          · simp only [List.mem_singleton] at h
            exact .inr ⟨e, List.mem_cons_self .., by rw [h]⟩
        · exact .inl h
      · exact .inl h
    · exact .inr ⟨x, List.mem_cons_of_mem _ hx, h⟩

theorem xs_mono {base : Nat} : ∀ (L : List Ev) (acc acc' : List (Nat × Blk)) (q : Nat × Blk), (∀ p ∈ acc', p ∈ acc ∨ p = q) → ∀ p ∈ L.foldl (xsStep D base) acc', p ∈ L.foldl (xsStep D base) acc ∨ p = q
  | [], acc, acc', q, h, p, hp => h p hp
  | e :: L, acc, acc', q, h, p, hp => by
    simp only [List.foldl_cons] at hp ⊢
    refine xs_mono L _ _ q (fun x hx => ?_) p hp
    unfold xsStep at hx ⊢
    split at hx
    · split at hx
      · cases hx
      · rename_i hD; rw [if_neg hD]; exact h x hx
    · split at hx
      · rename_i hD
        rw [if_pos hD]
        rcases List.mem_append.1 hx with hx | hx
        · exact (h x hx).imp (fun h => List.mem_append.2 (.inl h)) id
        · exact .inl (List.mem_append.2 (.inr hx))
      · rename_i hD; rw [if_neg hD]; exact h x hx
    · exact h x hx

theorem xs_grow {base : Nat} : ∀ (L : List Ev), (∀ e ∈ L, ∀ σ, e.kind = .eff σ → D e.i = false) → ∀ (acc : List (Nat × Blk)) (p : Nat × Blk), p ∈ acc → p ∈ L.foldl (xsStep D base) acc
  | [], _, acc, p, h => h
  | e :: L, he, acc, p, h => by
    simp only [List.foldl_cons]
    refine xs_grow L (fun x hx => he x (List.mem_cons_of_mem _ hx)) _ p ?_
    unfold xsStep
    split
    · rename_i σ hk; rw [he e (List.mem_cons_self ..) σ hk]; simpa using h
    · split
      · exact List.mem_append.2 (.inl h)
      · exact h
    · exact h

theorem Split.xs_quiet (s : Split r D T1 ev T2) (hk : ev.kind = .quiet) : xsD (plus D ev.i) r.base (T1 ++ ev :: T2) = xsD D r.base (T1 ++ ev :: T2) := by
  have e1 : ∀ e ∈ T1, ∀ b, xsStep (plus D ev.i) r.base b e = xsStep D r.base b e := fun e he b => by simp only [xsStep]; rw [plus_ne (s.one e he).1]
  have e2 : ∀ e ∈ T2, ∀ b, xsStep (plus D ev.i) r.base b e = xsStep D r.base b e := fun e he b => by simp only [xsStep]; rw [plus_ne (s.two e he).1]
  simp only [xsD, List.foldl_append, List.foldl_cons]
  rw [foldl_same T1 e1, foldl_same T2 e2]
  simp only [xsStep, hk]

theorem Split.xs_new (s : Split r D T1 ev T2) {b : Blk} (hk : ev.kind = .new b) : ∀ p ∈ xsD (plus D ev.i) r.base (T1 ++ ev :: T2), p ∈ xsD D r.base (T1 ++ ev :: T2) ∨ p = (r.base + ev.i, b) := by
  have e1 : ∀ e ∈ T1, ∀ b, xsStep (plus D ev.i) r.base b e = xsStep D r.base b e := fun e he b => by simp only [xsStep]; rw [plus_ne (s.one e he).1]
  have e2 : ∀ e ∈ T2, ∀ b, xsStep (plus D ev.i) r.base b e = xsStep D r.base b e := fun e he b => by simp only [xsStep]; rw [plus_ne (s.two e he).1]
  simp only [xsD, List.foldl_append, List.foldl_cons]
  rw [foldl_same T1 e1, foldl_same T2 e2]
  refine xs_mono T2 _ _ _ fun p hp => ?_
  simp only [xsStep, hk, plus_eq, if_true, s.new] at hp ⊢
  rcases List.mem_append.1 hp with hp | hp
  · exact .inl hp
  · exact .inr (by simpa using hp)

theorem Split.xs_top (s : Split r D T1 ev T2) (ha : ∀ e ∈ T1, D e.i = true) : ∀ p ∈ xsD top r.base T1, p ∈ xsD D r.base (T1 ++ ev :: T2) := by
  intro p hp
  simp only [xsD, List.foldl_append, List.foldl_cons]
  refine xs_grow T2 s.eff _ p ?_
  have e1 : T1.foldl (xsStep D r.base) [] = T1.foldl (xsStep top r.base) [] := foldl_same T1 (fun e he b => by simp only [xsStep, ha e he, top]) _
  rw [e1]
  have : ∀ b, xsStep D r.base b ev = b := fun b => by
    unfold xsStep
    split <;> first | (rw [s.new]; simp; done) | rfl
  rw [this]
  exact hp

theorem Split.xs_eff (s : Split r D T1 ev T2) {σ' : St} (hk : ev.kind = .eff σ') : ∀ p ∈ xsD (plus D ev.i) r.base (T1 ++ ev :: T2), p ∈ xsD D r.base (T1 ++ ev :: T2) ∧ ∃ e ∈ T2, p.1 = r.base + e.i := by
  intro p hp
  have e2 : ∀ e ∈ T2, ∀ b, xsStep (plus D ev.i) r.base b e = xsStep D r.base b e := fun e he b => by simp only [xsStep]; rw [plus_ne (s.two e he).1]
  simp only [xsD, List.foldl_append, List.foldl_cons] at hp ⊢
  rw [foldl_same T2 e2] at hp
  have h0 : ∀ b, xsStep (plus D ev.i) r.base b ev = [] := fun b => by simp only [xsStep, hk, plus_eq, if_true]
  rw [h0] at hp
  refine ⟨?_, (xs_mem T2 _ p hp).resolve_left (by simp)⟩
  rcases xs_mono T2 _ [] p (fun x hx => by cases hx) p hp with h | h
  · exact h
  · have : ∀ (L : List Ev) (acc acc' : List (Nat × Blk)), (∀ p ∈ acc', p ∈ acc) → ∀ p ∈ L.foldl (xsStep D r.base) acc', p ∈ L.foldl (xsStep D r.base) acc := by
      intro L
      induction L with
      | nil => exact fun acc acc' h p hp => h p hp
      | cons e L ih =>
        intro acc acc' h p hp
        simp only [List.foldl_cons] at hp ⊢
        refine ih _ _ (fun x hx => ?_) p hp
        unfold xsStep at hx ⊢
        split at hx
        · split at hx
          · cases hx
          · rename_i hD; rw [if_neg hD]; exact h x hx
        · split at hx
          · rename_i hD
            rw [if_pos hD]
            rcases List.mem_append.1 hx with hx | hx
            · exact List.mem_append.2 (.inl (h x hx))
            · exact List.mem_append.2 (.inr hx)
          · rename_i hD; rw [if_neg hD]; exact h x hx
        · exact h x hx
    exact this T2 _ [] (fun x hx => by cases hx) p hp

/-! In which states a quiet operation may run. -/
theorem reach_fold {p : Nat} : ∀ (L : List Ev) (H : List (Nat × St)) (σ : St), (∀ e ∈ L, bef r.ms e.i p = true → D e.i = true) → Reach r.ms p H σ → Reach r.ms p (L.foldl histStep H) (L.foldl (stStep D) σ)
  | [], _, _, _, h => h
  | e :: L, H, σ, hD, h => by
    simp only [List.foldl_cons]
    refine reach_fold L _ _ (fun x hx => hD x (List.mem_cons_of_mem _ hx)) ?_
    unfold histStep stStep
    split
    · rename_i σ' hk
      by_cases hd : D e.i = true
      · rw [if_pos hd]
        exact ⟨[], e.i, H, rfl, fun x hx => by cases hx⟩
      · rw [if_neg hd]
        obtain ⟨H1, i, H2, rfl, hn⟩ := h
        refine ⟨(e.i, σ') :: H1, i, H2, rfl, fun x hx => ?_⟩
        cases hx with
        | head =>
          cases hb : bef r.ms e.i p with
          | false => rfl
          | true => exact absurd (hD e (List.mem_cons_self ..) hb) hd
        | tail _ hx => exact hn x hx
    · exact h

theorem Split.reach (s : Split r D T1 ev T2) : Reach r.ms ev.i (histOf [(r.n, r.σ0)] T1) (stD D (T1 ++ ev :: T2) r.σ0) := by
  rw [s.st_one]
  exact reach_fold T1 _ _ (fun e _ hb => s.pre _ hb) ⟨[], r.n, [], rfl, fun x hx => by cases hx⟩
end
end Go.Run
