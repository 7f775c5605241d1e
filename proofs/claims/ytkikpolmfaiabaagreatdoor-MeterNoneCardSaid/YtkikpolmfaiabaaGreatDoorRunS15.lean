import Derived.Test.YtkikpolmfaiabaaGreatDoorRunS14
namespace Go.Run
variable {cx : Cx} {π : Pl} {σ : St} {w : World} {env : Env} {a : Act}

theorem cap_ok (hR : R π σ w) {ts : Array TypeId} {ty : TypeId} {as : List AV} {vs : Array Value} (h : RT π as vs.toList) : Yields cx.P π σ w (Builtin.cap_ ts ty vs) (capB cx ts.toList as σ) := by
  unfold capB
  split
  · rename_i t ts' p len c as' ht
    obtain ⟨X, r, hv, hx, hr⟩ := h.cons
    have e0 := tget0 ht
    have e1 := get0 hv
    split
    · rename_i e hu
      split
      · simp only [RA] at hx
        obtain ⟨rfl, rfl⟩ := hx
        refine yields_val (x := .int .i64 0) ?_ (RA_int _ _)
        simp [Builtin.cap_, e0, e1, und_run hu, goInt]
      · rename_i p n hn
        simp only [RA] at hx
        obtain ⟨b, base, bs, ad, cp, hp, rfl, hle, hcap⟩ := hx
        split
        · rename_i c' hc
          obtain ⟨_, k⟩ := cap_least hR hc hp hcap
          have := k rfl; subst this
          refine yields_val (x := .int .i64 c') ?_ (RA_int _ _)
          simp [Builtin.cap_, e0, e1, und_run hu, goInt]
        · trivial
      · trivial
    · trivial
  · trivial

theorem copy_ok (hR : R π σ w) {ts : Array TypeId} {ty : TypeId} {as : List AV} {vs : Array Value} (h : RT π as vs.toList) : Yields cx.P π σ w (Builtin.copy_ ts ty vs) (copyA cx ts.toList as σ) := by
  unfold copyA
  split
  · rename_i t ts' p len c x as' ht
    obtain ⟨S, r, hv, hs, hr⟩ := h.cons
    obtain ⟨X, r', rfl, hx, hr'⟩ := hr.cons'
    have e0 := tget0 ht
    have ev0 := get0 hv
    have ev1 := get1 hv
    split
    · rename_i e hu
      split
      · rename_i sz n hsz hn
        have hl := lenA_ok (cx := cx) (w := w) hn hx
        have hmin : (bif Nat.ble len n then len else n) = Nat.min n len := by
          rw [ble_eq]
          show _ = min n len
          by_cases hh : len ≤ n
          · rw [decide_eq_true hh]; simp; omega
          · rw [decide_eq_false hh]; simp; omega
        simp only [hmin]
        have hmn : Nat.min n len ≤ n := Nat.min_le_left _ _
        have hml : Nat.min n len ≤ len := Nat.min_le_right _ _
        split
        · trivial
        · rename_i cs hcs
          obtain ⟨news, hf, hnr, hnl⟩ := first_ok (cx := cx) hR hcs hx (fun p l c e => by subst e; cases hn; exact hmn)
          cases p with
          | none =>
            simp only [RA] at hs
            obtain ⟨rfl, rfl⟩ := hs
            refine yields_val (x := .int .i64 (Nat.min n 0)) ?_ (RA_int _ _)
            simp only [Builtin.copy_, e0, ev0, ev1, Sem.run_bind, und_run hu, Result.andThen_ok, hl, size_run hsz]
            have hf' : (Builtin.firstCells sz.succ (Nat.min n 0) X).run cx.P w = .ok news.toArray w := hf
            rw [hf']
            simp [goInt]
          | some p =>
            simp only [RA] at hs
            obtain ⟨b, base, bs, ad, cp, hp, rfl, hle, hcap⟩ := hs
            have hf' : (Builtin.firstCells sz.succ (Nat.min n len) X).run cx.P w = .ok news.toArray w := hf
            simp only [beq_eq]
            by_cases h0 : Nat.min n len = 0
            · rw [decide_eq_true h0]
              have hnn : news = [] := List.length_eq_zero_iff.1 (by rw [hnl, h0]; simp)
              subst hnn
              refine yields_val (x := .int .i64 0) ?_ (RA_int _ _)
              simp only [Builtin.copy_, e0, ev0, ev1, Sem.run_bind, und_run hu, Result.andThen_ok, hl, size_run hsz]
              rw [hf']
              simp [goInt, storeCells, h0]
            · rw [decide_eq_false h0]
              simp only [cond_false]
              have had := slice_at hcap hle (by omega)
              subst had
              rcases storeCells_cases p cs (.one (.int .i64 (.ofNat (Nat.min n len)))) σ with hst | ⟨σ', hst⟩
              · rw [hst]; trivial
              · obtain ⟨_, k1, k2, k3⟩ := storeCells_ok (cx := cx) hR (p := p) hnr hp hst
                rw [hst]
                refine ⟨.int .i64 (Nat.min n len), _, π, ?_, k2, RA_int _ _, k3⟩
                simp only [Builtin.copy_, e0, ev0, ev1, Sem.run_bind, und_run hu, Result.andThen_ok, hl, size_run hsz]
                rw [hf']
                simp only [Result.andThen_ok, Sem.run_bind, List.toList_toArray, k1, Sem.run_pure, goInt]
      · trivial
    · trivial
  · trivial

theorem sliceData_ok {ts : Array TypeId} {ty : TypeId} {as : List AV} {vs : Array Value} (h : RT π as vs.toList) : Yields cx.P π σ w (Builtin.unsafeSliceData_ ts ty vs) (sliceDataB as) := by
  unfold sliceDataB
  split
  · obtain ⟨S, r, hv, hs, hr⟩ := h.cons
    have hr' : r = [] := by cases r with
      | nil => rfl
      | cons _ _ => simp [RT] at hr
    subst hr'
    simp only [RA] at hs
    obtain ⟨rfl, rfl⟩ := hs
    have : vs = #[.slice none 0 0] := by apply Array.toList_inj.1; simpa using hv
    subst this
    exact yields_val (x := .pointer none) rfl (by simp [RA, RC])
  · rename_i p n c
    obtain ⟨S, r, hv, hs, hr⟩ := h.cons
    have hr' : r = [] := by cases r with
      | nil => rfl
      | cons _ _ => simp [RT] at hr
    subst hr'
    simp only [RA] at hs
    obtain ⟨b, base, bs, ad, cp, hp, rfl, hle, hcap⟩ := hs
    have : vs = #[.slice (some ⟨b, ad, none⟩) (n + 1) cp] := by apply Array.toList_inj.1; simpa using hv
    subst this
    have had := slice_at hcap hle (by omega)
    subst had
    have hcp : cp ≠ 0 := by omega
    refine yields_val (x := .pointer (some ⟨b, base + p.2, none⟩)) (by
      show (if cp ≠ 0 then pure (.pointer (some ⟨b, base + p.2, none⟩)) else _ : Sem Value).run cx.P w = _
      rw [if_pos hcp]; rfl) ?_
    simp only [RA]
    exact ⟨b, base, bs, hp, rfl⟩
  · trivial

end Go.Run
