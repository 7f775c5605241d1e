import Derived.Test.YtkikpolmfaiabaaGreatDoorRunS11
namespace Go.Run
variable {cx : Cx} {π : Pl} {σ : St} {w : World} {env : Env} {a : Act}

/-- where a slice that is not empty lies -/
theorem slice_at {c : Cap} {o l b base sz ad cp : Nat} (h : CapOk c o l b base sz ad cp) (hl : l ≤ cp) (h0 : l ≠ 0) : ad = base + o := by
  cases c with
  | ex c => rcases h.2 with h' | h'
            · exact h'
            · have := h.1; omega
  | to z => rcases h.2.2.2 with h' | h'
            · exact h'
            · omega

theorem lenA_ok {x : AV} {n : Nat} {X : Value} (h : lenA x = some n) (hx : RA π x X) : (Builtin.lenOf X).run cx.P w = .ok n w := by
  unfold lenA at h
  split at h
  · rename_i p n c
    cases h
    cases p with
    | none => simp only [RA] at hx; obtain ⟨rfl, rfl⟩ := hx; simp [Builtin.lenOf]
    | some p => simp only [RA] at hx; obtain ⟨_, _, _, _, _, _, rfl, _⟩ := hx; simp [Builtin.lenOf]
  · cases h; rw [str_of hx, lenN_eq]; simp [Builtin.lenOf]; rfl
  · cases h

/-- what is handed over: n elements at the front -/
theorem first_ok (hR : R π σ w) {sz n : Nat} {x : AV} {cs : List CV} {X : Value} (h : firstA sz n x σ = some cs) (hx : RA π x X) (hn : ∀ p l c, x = .one (.slice p l c) → n ≤ l) :
    ∃ vs : List Value, (Builtin.firstCells sz n X).run cx.P w = .ok vs.toArray w ∧ RL π cs vs ∧ vs.length = n * sz := by
  unfold firstA at h
  split at h
  · rename_i l c
    rw [beq_eq] at h
    by_cases h0 : n = 0
    · rw [decide_eq_true h0] at h; cases h; subst h0
      simp only [RA] at hx; obtain ⟨_, rfl⟩ := hx
      exact ⟨[], by simp [Builtin.firstCells], trivial, by simp⟩
    · rw [decide_eq_false h0] at h; cases h
  · rename_i p l c
    simp only [RA] at hx; obtain ⟨b, base, bs, ad, cp, hp, rfl, hle, hc⟩ := hx
    have hnl := hn _ _ _ rfl
    rw [beq_eq] at h
    by_cases h0 : n = 0
    · rw [decide_eq_true h0] at h; cases h; subst h0
      have hl : (loadCells ⟨b, ad, none⟩ 0).run cx.P w = .ok #[] w := by simpa using run_loadCells_list (P := cx.P) w ⟨b, ad, none⟩ [] (by simp)
      exact ⟨[], by simp [Builtin.firstCells, hl], trivial, by simp⟩
    · rw [decide_eq_false h0] at h
      simp only [cond_false] at h
      split at h
      · rename_i k e ex hi
        obtain ⟨⟨b', base', sz'⟩, hp', hblk⟩ := hR.blk p.1 _ hi
        rw [hp] at hp'; cases hp'
        obtain ⟨ms, h1, h2, h3⟩ := hblk.read h
        have had := slice_at hc hle (by omega)
        subst had
        have hl := run_loadCells_list (P := cx.P) w ⟨b, base + p.2, none⟩ ms (fun j v hj => by rw [Addr.add_mid]; exact h3 j v hj)
        rw [h2] at hl
        exact ⟨ms, by simpa [Builtin.firstCells] using hl, h1, h2⟩
      · cases h
  · rename_i s
    rw [beq_eq] at h
    by_cases h1 : sz = 1
    · rw [decide_eq_true h1] at h
      simp only [cond_true] at h
      subst h1
      split at h
      · rename_i l hl
        cases h
        obtain ⟨rfl, hle⟩ := takeN_eq _ _ _ hl
        rw [str_of hx]
        have hll : (bytesOf s).length = s.size := rfl
        refine ⟨_, ?_, cellsOfBytes_ok _, by simp; omega⟩
        have : (s.extract 0 n).data = ((bytesOf s).take n).toArray := by
          rw [ByteArray.data_extract]
          apply Array.toList_inj.1
          simp [bytesOf]
        simp only [Builtin.firstCells, this, Sem.run_pure]
        simp
      · cases h
    · rw [decide_eq_false h1] at h; cases h
  · cases h

/-- cells of a known block are written -/
theorem storeCells_ok (hR : R π σ w) {p : Nat × Nat} {cs : List CV} {vs : List Value} {v : AV} (hv : RL π cs vs) {b base bs : Nat} (hp : π p.1 = some (b, base, bs)) {σ' : St} {v' : AV} (h : storeCellsA p cs v σ = .st v' σ') :
    v' = v ∧ (storeCells ⟨b, base + p.2, none⟩ vs).run cx.P w = .ok () (w.setCells b (base + p.2) vs) ∧ R π σ' (w.setCells b (base + p.2) vs) ∧ Go π σ w π σ' (w.setCells b (base + p.2) vs) := by
  unfold storeCellsA at h
  split at h
  · rename_i l e ex hi
    split at h
    · rename_i l' ho
      cases h
      obtain ⟨g1, g2, g3⟩ := hR.write hi ho hv hp
      exact ⟨rfl, g1 _, g2, g3⟩
    · cases h
  · cases h
theorem storeCells_cases (p : Nat × Nat) (cs : List CV) (v : AV) (σ : St) : storeCellsA p cs v σ = .no ∨ ∃ σ', storeCellsA p cs v σ = .st v σ' := by
  unfold storeCellsA
  split
  · split
    · exact .inr ⟨_, rfl⟩
    · exact .inl rfl
  · exact .inl rfl

theorem RT.length {π : Pl} : ∀ {l : List AV} {vs : List Value}, RT π l vs → l.length = vs.length
  | [], [], _ => rfl
  | _ :: _, _ :: _, h => by simp only [RT] at h; simp [RT.length h.2]
  | [], _ :: _, h => by simp [RT] at h
  | _ :: _, [], h => by simp [RT] at h
theorem RT.cons {π : Pl} {c : AV} {l : List AV} {vs : Array Value} (h : RT π (c :: l) vs.toList) : ∃ v r, vs.toList = v :: r ∧ RA π c v ∧ RT π l r := by
  cases hv : vs.toList with
  | nil => rw [hv] at h; simp [RT] at h
  | cons v r => rw [hv] at h; simp only [RT] at h; exact ⟨v, r, rfl, h.1, h.2⟩
theorem get0 {vs : Array Value} {v : Value} {r : List Value} (h : vs.toList = v :: r) : vs[0]? = some v := by
  have : vs.toList[0]? = some v := by rw [h]; rfl
  simpa using this
theorem get1 {vs : Array Value} {v u : Value} {r : List Value} (h : vs.toList = v :: u :: r) : vs[1]? = some u := by
  have : vs.toList[1]? = some u := by rw [h]; rfl
  simpa using this
theorem tget0 {ts : Array TypeId} {t : TypeId} {r : List TypeId} (h : ts.toList = t :: r) : ts[0]? = some t := by
  have : ts.toList[0]? = some t := by rw [h]; rfl
  simpa using this

/-! Builtins. -/
theorem len_ok (hR : R π σ w) {ts : Array TypeId} {ty : TypeId} {as : List AV} {vs : Array Value} (h : RT π as vs.toList) : Yields cx.P π σ w (Builtin.len_ ts ty vs) (lenB cx ts.toList as σ) := by
  unfold lenB
  split
  · rename_i t ts' x as' ht
    obtain ⟨X, r, hv, hx, hr⟩ := h.cons
    have e0 := tget0 ht
    have e1 := get0 hv
    split
    · rename_i s hu
      rw [str_of hx] at e1
      rw [lenN_eq]
      refine yields_val (x := .int .i64 s.size) ?_ (RA_int _ _)
      simp [Builtin.len_, e0, e1, und_run hu, goInt]
    · rename_i e p n c hu
      refine yields_val (x := .int .i64 n) ?_ (RA_int _ _)
      cases p with
      | none => simp only [RA] at hx; obtain ⟨rfl, rfl⟩ := hx; simp [Builtin.len_, e0, e1, und_run hu, goInt]
      | some p => simp only [RA] at hx; obtain ⟨_, _, _, _, _, _, rfl, _⟩ := hx; simp [Builtin.len_, e0, e1, und_run hu, goInt]
    · rename_i n e hu
      refine yields_val (x := .int .i64 n) ?_ (RA_int _ _)
      simp [Builtin.len_, e0, e1, und_run hu, goInt]
    · rename_i k e hu
      have e2 : X = .map none := by simpa [RA, RC] using hx
      subst e2
      refine yields_val (x := .int .i64 0) ?_ (RA_int _ _)
      simp [Builtin.len_, e0, e1, und_run hu, goInt]
    · rename_i k e r' hu
      split
      · rename_i es c hi
        obtain ⟨x', hp, hblk⟩ := hR.blk r' _ hi
        simp only [RA] at hx
        obtain ⟨y, hp', rfl⟩ := hx
        rw [hp] at hp'; cases hp'
        obtain ⟨ms, h1, h2⟩ := hblk
        have hlen : ∀ {es : List (CV × AV × Nat)} {ms : List MapEntry}, REs π es ms → es.length = ms.length := by
          intro es
          induction es with
          | nil => intro ms h; cases ms with
            | nil => rfl
            | cons _ _ => exact h.elim
          | cons e es ih => intro ms h; cases ms with
            | nil => exact h.elim
            | cons _ _ => simp [ih h.2]
        have hl := hlen h2
        refine yields_val (x := .int .i64 ms.size) ?_ (by rw [lenN_eq, hl]; exact RA_int _ _)
        simp [Builtin.len_, e0, e1, und_run hu, goInt, getObj, Sem.run, h1]
      · trivial
    · trivial
  · trivial

theorem minA_ok {gt : Bool} {x y : AV} {X Y : Value} {k : IntKind} {n : Int} (h : minA gt x y = .one (.int k n)) (hx : RA π x X) (hy : RA π y Y) :
    ((bif gt then Builtin.max2 X Y else Builtin.min2 X Y) : Sem Value).run cx.P w = .ok (.int k n) w := by
  unfold minA at h
  split at h
  · rename_i k1 a k2 b
    rw [int_of hx, int_of hy]
    cases h
    cases gt
    · simp only [cond_false, intLt_ok, Builtin.min2, Sem.run_pure]
      by_cases hh : b < a
      · simp [hh]
      · simp [hh]
    · simp only [cond_true, intLt_ok, Builtin.max2, Sem.run_pure]
      by_cases hh : a < b
      · simp [hh]
      · simp [hh]
  · cases h
theorem foldA_ok {gt : Bool} : ∀ (as : List AV) (vs : List Value) (x : AV) (X : Value) (k : IntKind) (n : Int), foldA (minA gt) x as = .one (.int k n) → RA π x X → RT π as vs →
    (vs.foldlM (fun u v => (bif gt then Builtin.max2 u v else Builtin.min2 u v)) X : Sem Value).run cx.P w = .ok (.int k n) w
  | [], [], x, X, k, n, h, hx, _ => by simp only [foldA] at h; subst h; rw [int_of hx]; rfl
  | y :: as, v :: vs, x, X, k, n, h, hx, hr => by
    simp only [RT] at hr
    simp only [foldA] at h
    have hne : ∃ k' n', minA gt x y = .one (.int k' n') := by
      unfold minA at h ⊢
      split
      · exact ⟨_, _, rfl⟩
      · exfalso
        have : ∀ (as : List AV), foldA (minA gt) .bad as = .bad := by
          intro as; induction as with
          | nil => rfl
          | cons a as ih => rw [foldA]; have : minA gt .bad a = .bad := rfl
                            rw [this]; exact ih
        simp only at h
        have e := this as
        unfold minA at e
        rw [e] at h; cases h
    obtain ⟨k', n', e⟩ := hne
    rw [e] at h
    simp only [List.foldlM_cons, Sem.run_bind, minA_ok e hx hr.1, Result.andThen_ok]
    exact foldA_ok as vs _ _ k n h (RA_int _ _) hr.2
  | [], _ :: _, _, _, _, _, _, _, h => by simp [RT] at h
  | _ :: _, [], _, _, _, _, _, _, h => by simp [RT] at h
theorem min_ok {ts : Array TypeId} {ty : TypeId} {as : List AV} {vs : Array Value} (h : RT π as vs.toList) : Yields cx.P π σ w (Builtin.min_ ts ty vs) (minO false as) := by
  unfold minO
  split
  · rename_i x as'
    obtain ⟨X, r, hv, hx, hr⟩ := h.cons
    split
    · rename_i k n hf
      have := foldA_ok (cx := cx) (w := w) (gt := false) as' r x X k n hf hx hr
      refine yields_val (x := .int k n) ?_ (RA_int _ _)
      simp only [Builtin.min_, hv]
      exact this
    · trivial
  · trivial
theorem max_ok {ts : Array TypeId} {ty : TypeId} {as : List AV} {vs : Array Value} (h : RT π as vs.toList) : Yields cx.P π σ w (Builtin.max_ ts ty vs) (minO true as) := by
  unfold minO
  split
  · rename_i x as'
    obtain ⟨X, r, hv, hx, hr⟩ := h.cons
    split
    · rename_i k n hf
      have := foldA_ok (cx := cx) (w := w) (gt := true) as' r x X k n hf hx hr
      refine yields_val (x := .int k n) ?_ (RA_int _ _)
      simp only [Builtin.max_, hv]
      exact this
    · trivial
  · trivial
end Go.Run
