import Derived.Test.YtkikpolmfaiabaaGreatDoorRunS13
namespace Go.Run
variable {cx : Cx} {π : Pl} {σ : St} {w : World} {env : Env} {a : Act}

theorem RT.cons' {π : Pl} {c : AV} {l : List AV} {vs : List Value} (h : RT π (c :: l) vs) : ∃ v r, vs = v :: r ∧ RA π c v ∧ RT π l r := by
  cases vs with
  | nil => simp [RT] at h
  | cons v r => simp only [RT] at h; exact ⟨v, r, rfl, h.1, h.2⟩

def NoInt (cx : Cx) (o : Option TypeId) : Prop := o = none ∨ ∃ u d, o = some u ∧ und cx u = some d ∧ ∀ k, d ≠ .int k
theorem noInt_cases {ts : Array TypeId} {t : TypeId} {r : List TypeId} (h : ts.toList = t :: r) (hn : noInt cx r = true) : NoInt cx ts[1]? := by
  have hg : ts[1]? = r[0]? := by
    have : ts.toList[1]? = r[0]? := by rw [h]; rfl
    simpa using this
  rw [hg]
  cases r with
  | nil => exact .inl rfl
  | cons u r =>
    simp only [noInt] at hn
    split at hn
    · cases hn
    · cases hn
    · rename_i h1 h2
      cases hu : und cx u with
      | none => exact absurd hu h2
      | some d => exact .inr ⟨u, d, rfl, hu, fun k e => h1 k (by rw [hu, e])⟩
theorem noInt_false {d : TypeDesc} (h : ∀ k, d ≠ .int k) : (match d with | .int _ => true | _ => false) = false := by
  cases d <;> first | rfl | exact absurd rfl (h _)

/-- append, where there is room -/
theorem append_in {ts : Array TypeId} {vs : Array Value} {ty t e : TypeId} {inf : TypeInfo} {n len cp : Nat} {base : Option Addr} {X : Value} {news : Array Value}
    (e0 : ts[0]? = some t) (ev0 : vs[0]? = some (.slice base len cp)) (ev1 : vs[1]? = some X) (hu : und cx t = some (.slice e)) (hi : cx.P.info? e = some inf)
    (hz : NoInt cx ts[1]?)
    (hl : (Builtin.lenOf X).run cx.P w = .ok n w) (hf : (Builtin.firstCells inf.size n X).run cx.P w = .ok news w) (hle : len + n ≤ cp) :
    (Builtin.append_ ts ty vs).run cx.P w = ((match base with | some a => storeCells (a.add (len * inf.size)) news.toList | none => pure () : Sem Unit).run cx.P w).andThen fun _ w' => .ok (.slice base (len + n) cp) w' := by
  have hs : (sizeOf e).run cx.P w = .ok inf.size w := size_run (by simp [size, hi]) w
  rcases hz with hz | ⟨u, d, hz, hud, hd⟩
  · simp only [Builtin.append_, e0, ev0, ev1, hz, Sem.run_bind, und_run hu, Result.andThen_ok, hs, Sem.run_pure, Bool.false_eq_true, if_false, hl, Bool.not_false, if_true, Sem.run_ite, hle, hf]
    cases base with
    | none => simp
    | some a => simp
  · simp only [Builtin.append_, e0, ev0, ev1, hz, Sem.run_bind, und_run hu, und_run hud, noInt_false hd, Result.andThen_ok, hs, Sem.run_pure, Bool.false_eq_true, if_false, hl, Bool.not_false, if_true, Sem.run_ite, hle, hf]
    cases base with
    | none => simp
    | some a => simp

/-- append, where there is none -/
theorem append_grow {ts : Array TypeId} {vs : Array Value} {ty t e : TypeId} {inf : TypeInfo} {n len cp : Nat} {base : Option Addr} {X z : Value} {olds news : Array Value}
    (e0 : ts[0]? = some t) (ev0 : vs[0]? = some (.slice base len cp)) (ev1 : vs[1]? = some X) (hu : und cx t = some (.slice e)) (hi : cx.P.info? e = some inf)
    (hz : NoInt cx ts[1]?)
    (hl : (Builtin.lenOf X).run cx.P w = .ok n w) (hf : (Builtin.firstCells inf.size n X).run cx.P w.drew = .ok news w.drew) (ho : (Builtin.firstCells inf.size len (.slice base len cp)).run cx.P w.drew = .ok olds w.drew)
    (hzv : (zeroValue e).run cx.P w.drew = .ok z w.drew)
    (hle : ¬ (len + n ≤ cp)) (hb : (2 * (len + n) + 2048) * inf.bytes ≤ 140737488355328) (hn : len + n ≤ 4611686018427387904) :
    (Builtin.append_ ts ty vs).run cx.P w = .ok (.slice (some ⟨w.heap.size, 0, none⟩) (len + n) (grownCap w (len + n) cp e))
      (w.drew.alloc (.cells (olds ++ news ++ Builtin.zeroCells z.cells (grownCap w (len + n) cp e - (len + n))) e)) := by
  have hs : (sizeOf e).run cx.P w = .ok inf.size w := size_run (by simp [size, hi]) w
  have hti : (typeInfo e).run cx.P w = .ok inf w := by simp [typeInfo, hi]
  have hti' : (typeInfo e).run cx.P w.drew = .ok inf w.drew := by simp [typeInfo, hi]
  have hmax : IntKind.i64.max = 9223372036854775807 := by decide
  have c1 : ¬ (((len + n : Nat) : Int) > IntKind.i64.max) := by rw [hmax]; omega
  have hcap := nextslicecap_le (len + n) cp (by omega)
  have c2 : ¬ (Builtin.nextslicecap (len + n) cp * inf.bytes > 2 ^ 48) := by
    have : Builtin.nextslicecap (len + n) cp * inf.bytes ≤ (2 * (len + n) + 2048) * inf.bytes := Nat.mul_le_mul_right _ (by omega)
    omega
  have hq : ∀ (need old : Nat) (e : TypeId), (Question.appendCap need old e).forced = false := fun _ _ _ => rfl
  have hch : (choose (.appendCap (len + n) cp e)).run cx.P w = .ok (grownCap w (len + n) cp e) w.drew := by simp [hq, grownCap]
  rcases hz with hz | ⟨u, d, hz, hud, hd⟩
  · simp only [Builtin.append_, e0, ev0, ev1, hz, Sem.run_bind, und_run hu, Result.andThen_ok, hs, Sem.run_pure, Bool.false_eq_true, if_false, hl, Bool.not_false, if_true, Sem.run_ite, hle, hti, c1, c2, false_and, hch, hti', run_askRoom, ho, hf, hzv]
    simp [newRow, World.alloc_eq]
    rfl
  · simp only [Builtin.append_, e0, ev0, ev1, hz, Sem.run_bind, und_run hu, und_run hud, noInt_false hd, Result.andThen_ok, hs, Sem.run_pure, Bool.false_eq_true, if_false, hl, Bool.not_false, if_true, Sem.run_ite, hle, hti, c1, c2, false_and, hch, hti', run_askRoom, ho, hf, hzv]
    simp [newRow, World.alloc_eq]
    rfl

theorem R.heap {w' : World} (h : R π σ w) (e : w'.heap = w.heap) : R π σ w' :=
  ⟨fun i b hi => let ⟨x, hx, hb⟩ := h.blk i b hi; ⟨x, hx, hb.congr (by rw [e])⟩, h.inj, h.lt⟩
theorem more_drew (w : World) (o : Obj) : More w (w.drew.alloc o) := ⟨(more_alloc w.drew o).size, (more_alloc w.drew o).old, ⟨rfl, rfl, rfl⟩⟩

theorem append_new {e : TypeId} {l : List CV} {os ns : Array Value} {z : Value} {sz need g : Nat} (h : RL π l (os ++ ns).toList) (hsz : 0 < sz) (hl : (os ++ ns).size = need * sz) (hz : z.cells.size = sz) (hg : need ≤ g) :
    NewOk π w (w.drew.alloc (.cells (os ++ ns ++ Builtin.zeroCells z.cells (g - need)) e)) (w.heap.size, 0, g * sz) (.cells l e false) (fun i => .one (.slice (some (i, 0)) need (.to sz))) (.slice (some ⟨w.heap.size, 0, none⟩) need g) where
  at_ := rfl
  more := more_drew _ _
  blk i hi := by
    have hlen := h.length
    have hs : (os ++ ns ++ Builtin.zeroCells z.cells (g - need)).size = g * sz := by
      rw [Array.size_append, hl, zeroCells_size, hz, ← Nat.add_mul]; congr 1; omega
    refine ⟨_, _, heap_alloc w.drew _, hs, ?_, fun h => (by cases h), fun j _ => by simp, _, h.mono (Pl.le_upd hi _), fun j v hj => ?_⟩
    · have : need * sz ≤ g * sz := Nat.mul_le_mul_right _ hg
      have e2 : l.length = need * sz := by rw [hlen, Array.length_toList, hl]
      show 0 + l.length ≤ g * sz
      omega
    · simp only [Nat.zero_add]
      have hj' : (os ++ ns)[j]? = some v := by rw [← Array.getElem?_toList]; exact hj
      have hlt : j < (os ++ ns).size := by
        rcases Nat.lt_or_ge j (os ++ ns).size with h | h
        · exact h
        · rw [Array.getElem?_eq_none h] at hj'; cases hj'
      rw [Array.getElem?_append_left hlt]; exact hj'
  val i _ := slice_new_val hsz hg i

theorem append_to_ok (hR : R π σ w) {ts : Array TypeId} {vs : Array Value} {ty t e : TypeId} {inf : TypeInfo} {n len : Nat} {cap : Cap} {p : Option (Nat × Nat)} {S X z : Value} {new : List CV} {news news' : List Value}
    (e0 : ts[0]? = some t) (ev0 : vs[0]? = some S) (ev1 : vs[1]? = some X) (hu : und cx t = some (.slice e)) (hi : cx.P.info? e = some inf) (hz : NoInt cx ts[1]?) (hs : RA π (.one (.slice p len cap)) S)
    (hl : (Builtin.lenOf X).run cx.P w = .ok n w) (hf : (Builtin.firstCells inf.size n X).run cx.P w = .ok news.toArray w) (hnr : RL π new news) (hnl : news.length = n * inf.size)
    (hf' : (Builtin.firstCells inf.size n X).run cx.P w.drew = .ok news'.toArray w.drew) (hnr' : RL π new news') (hnl' : news'.length = n * inf.size)
    (hzv : (zeroValue e).run cx.P w.drew = .ok z w.drew) (hzs : z.cells.size = inf.size) (hsz : inf.size ≠ 0)
    (hb : (2 * (len + n) + 2048) * inf.bytes ≤ 140737488355328) (hn : len + n ≤ 4611686018427387904) (h0 : n ≠ 0) :
    Yields cx.P π σ w (Builtin.append_ ts ty vs) (appendTo e inf.size p len cap n new σ) := by
  have hRd : R π σ w.drew := hR.heap rfl
  unfold appendTo
  cases p with
  | none =>
    simp only [RA] at hs
    obtain ⟨rfl, rfl⟩ := hs
    have hg := grownCap_ge w (0 + n) 0 e
    have ho : (Builtin.firstCells inf.size 0 (.slice none 0 0)).run cx.P w.drew = .ok #[] w.drew := by simp [Builtin.firstCells]
    have hrun := append_grow (ty := ty) e0 ev0 ev1 hu hi hz hl hf' ho hzv (by omega) hb hn
    have hnew := append_new (π := π) (w := w) (e := e) (l := new) (os := #[]) (ns := news'.toArray) (z := z) (sz := inf.size) (need := 0 + n) (g := grownCap w (0 + n) 0 e) (by simpa using hnr') (by omega) (by simp [hnl']) hzs hg
    obtain ⟨g1, g2, g3⟩ := hR.push hnew
    exact ⟨_, _, _, hrun, g1, g2, g3⟩
  | some p =>
    simp only [RA] at hs
    obtain ⟨b, base, bs, ad, cp, hp, rfl, hle, hcap⟩ := hs
    simp only
    split
    · trivial
    · rename_i c xx hc
      obtain ⟨hc1, hc2⟩ := cap_least hR hc hp hcap
      rw [ble_eq]
      by_cases hin : Nat.add len n ≤ c
      · rw [decide_eq_true hin]
        simp only [cond_true]
        have hin' : len + n ≤ cp := Nat.le_trans hin hc1
        have had : ad = base + p.2 := slice_at (l := len + n) (b := b) hcap hin' (by omega)
        rcases storeCells_cases (p.1, Nat.add p.2 (Nat.mul len inf.size)) new (.one (.slice (some p) (Nat.add len n) cap)) σ with hst | ⟨σ', hst⟩
        · rw [hst]; trivial
        · obtain ⟨_, k1, k2, k3⟩ := storeCells_ok (cx := cx) hR (p := (p.1, Nat.add p.2 (Nat.mul len inf.size))) hnr hp hst
          rw [hst]
          refine ⟨.slice (some ⟨b, ad, none⟩) (len + n) cp, _, π, ?_, k2, ?_, k3⟩
          · rw [append_in e0 ev0 ev1 hu hi hz hl hf hin']
            have e1 : (⟨b, ad, none⟩ : Addr).add (len * inf.size) = ⟨b, base + Nat.add p.2 (Nat.mul len inf.size), none⟩ := by
              rw [Addr.add_mid, had]; congr 1; show base + p.2 + len * inf.size = base + (p.2 + len * inf.size); omega
            simp only [e1, List.toList_toArray]
            rw [k1]; rfl
          · simp only [RA]; exact ⟨b, base, bs, ad, cp, hp, rfl, hin', hcap⟩
      · rw [decide_eq_false hin]
        simp only [cond_false]
        cases hx : (xx || elemIs σ p.1 e)
        · trivial
        · simp only [cond_true]
          split
          · trivial
          · rename_i old hold
            have hsS : RA π (.one (.slice (some p) len cap)) (.slice (some ⟨b, ad, none⟩) len cp) := by simp only [RA]; exact ⟨b, base, bs, ad, cp, hp, rfl, hle, hcap⟩
            by_cases hroom : len + n ≤ cp
            · have hxx : xx = false := by
                cases xx with
                | false => rfl
                | true => have := hc2 rfl; exact absurd (this ▸ hroom) hin
              subst hxx
              simp only [Bool.false_or, elemIs] at hx
              split at hx
              · rename_i l e' ex hi'
                have he : e' = e := Nat.eq_of_beq_eq_true hx
                subst he
                obtain ⟨⟨b', base', sz'⟩, hp', hblk⟩ := hR.blk p.1 _ hi'
                rw [hp] at hp'; cases hp'
                obtain ⟨z', rfl, rfl⟩ : ∃ z', cap = .to z' ∧ z' = inf.size := by
                  cases cap with
                  | ex c => simp [capOf] at hc
                  | to z' =>
                    simp only [capOf, beq_eq] at hc
                    by_cases hzz : z' = inf.size
                    · exact ⟨z', rfl, hzz⟩
                    · rw [decide_eq_false hzz] at hc; cases hc
                obtain ⟨c1, c2, c3, c4⟩ := hcap
                have had : ad = base + p.2 := by rcases c4 with h | h <;> omega
                subst had
                have hmul : (len + n) * inf.size ≤ cp * inf.size := Nat.mul_le_mul_right _ hroom
                rw [Nat.add_mul] at hmul
                obtain ⟨olds, o1, o2, o3⟩ : ∃ olds : List Value, RL π old olds ∧ olds.length = len * inf.size ∧ ∀ j v, olds[j]? = some v → w.cell? ⟨b, base + p.2 + j, none⟩ = some v := by
                  unfold firstA at hold
                  simp only [beq_eq] at hold
                  by_cases hl0 : len = 0
                  · subst hl0; simp at hold; subst hold
                    exact ⟨[], trivial, by simp, fun j v h => by simp at h⟩
                  · rw [decide_eq_false hl0] at hold
                    simp only [cond_false, hi'] at hold
                    exact hblk.read hold
                obtain ⟨cs, frz, h1, h2, h3, h4, h5, us, h6, h7⟩ := hblk
                simp only at h1 h2 h5
                obtain ⟨cs', q1, q2, q3, q4⟩ := heap_setCells b e' frz news (base + p.2 + len * inf.size) w cs h1 (by omega)
                have hblt : b < w.heap.size := own_lt hR ⟨p.1, _, _, hi', hp, rfl⟩
                have hrun := run_storeCells_cells (P := cx.P) b (base + p.2 + len * inf.size) news 0 w (fun j hj => by rw [cell_of h1]; simp; omega) (fun j hj => frozen_of h1 (h5 _ (by omega))) hnr.oneCell
                simp only [Nat.add_zero] at hrun
                have hRB : RB π (w.setCells b (base + p.2 + len * inf.size) news) (b, base + p.2, bs) (.cells (old ++ new) e' false) := by
                  have l1 := o1.length
                  have l2 := hnr.length
                  refine ⟨cs', frz, q1, by rw [q2]; exact h2, by simp; omega, fun h => (by cases h), h5, olds ++ news, o1.append hnr, fun j v hj => ?_⟩
                  simp only
                  by_cases hjl : j < olds.length
                  · rw [List.getElem?_append_left hjl] at hj
                    rw [q4 _ (.inl (by omega))]
                    have := o3 j v hj
                    rw [cell_of h1] at this; exact this
                  · rw [List.getElem?_append_right (by omega)] at hj
                    have := q3 _ _ hj
                    rwa [o2, show base + p.2 + len * inf.size + (j - len * inf.size) = base + p.2 + j by omega] at this
                have hoth : ∀ b', b' ≠ b → (w.setCells b (base + p.2 + len * inf.size) news).heap[b']? = w.heap[b']? := fun b' hne => by
                  rcases Nat.lt_or_ge b' w.heap.size with hh | hh
                  · exact World.heap_setCells_other w b _ news hh hne
                  · rw [Array.getElem?_eq_none hh, Array.getElem?_eq_none (by rw [size_setCells]; exact hh)]
                obtain ⟨r1, r2⟩ := hR.remap (y := (b, base + p.2, bs)) hi' hp rfl (size_setCells _ _ _ _) hoth hRB (same_setCells _ _ _ _)
                refine ⟨.slice (some ⟨b, base + p.2, none⟩) (len + n) cp, _, _, ?_, r1, ?_, r2⟩
                · rw [append_in e0 ev0 ev1 hu hi hz hl hf hroom]
                  simp only [Addr.add_mid, List.toList_toArray]
                  rw [hrun]; rfl
                · simp only [RA]
                  exact ⟨b, base + p.2, bs, base + p.2, cp, Pl.upd_same _ _ _, rfl, hroom, c1, by simpa using c2, by simpa using c3, .inl (by simp)⟩
              · cases hx
            · obtain ⟨olds, ho, hor, hol⟩ := first_ok (cx := cx) hRd hold hsS (fun p' l' c' e' => by cases e'; exact Nat.le_refl _)
              have hg := grownCap_ge w (len + n) cp e
              have hrun := append_grow (ty := ty) e0 ev0 ev1 hu hi hz hl hf' ho hzv hroom hb hn
              have hnew := append_new (π := π) (w := w) (e := e) (l := old ++ new) (os := olds.toArray) (ns := news'.toArray) (z := z) (sz := inf.size) (need := len + n) (g := grownCap w (len + n) cp e) (by simpa using hor.append hnr') (by omega) (by simp [hnl', hol, Nat.add_mul]) hzs hg
              cases xx with
              | true =>
                obtain ⟨g1, g2, g3⟩ := hR.push hnew
                exact ⟨_, _, _, hrun, g1, g2, g3⟩
              | false =>
                obtain ⟨k1, k2⟩ := hR.kill p.1
                obtain ⟨g1, g2, g3⟩ := k1.push hnew
                exact ⟨_, _, _, hrun, g1, g2, k2.trans g3⟩

theorem append_ok (hR : R π σ w) {ts : Array TypeId} {ty : TypeId} {as : List AV} {vs : Array Value} (h : RT π as vs.toList) : Yields cx.P π σ w (Builtin.append_ ts ty vs) (appendA cx ts.toList as σ) := by
  unfold appendA
  split
  · rename_i t ts' s x as' ht
    obtain ⟨S, r, hv, hs, hr⟩ := h.cons
    obtain ⟨X, r', rfl, hx, hr'⟩ := hr.cons'
    have e0 := tget0 ht
    have ev0 := get0 hv
    have ev1 := get1 hv
    split
    · rename_i p len cap
      split
      · rename_i e hu
        split
        · rename_i inf n hi hn
          cases hc : (noInt cx ts' && !(Nat.beq inf.size 0) && Nat.ble (Nat.mul (Nat.add (Nat.mul 2 (Nat.add len n)) 2048) inf.bytes) 140737488355328 && Nat.ble (Nat.add len n) 4611686018427387904)
          · trivial
          · simp only [cond_true]
            simp only [Bool.and_eq_true, ble_eq, beq_eq, Bool.not_eq_true', decide_eq_true_eq, decide_eq_false_iff_not] at hc
            obtain ⟨⟨⟨hno, hsz⟩, hbytes⟩, hneed⟩ := hc
            have hbytes' : (2 * (len + n) + 2048) * inf.bytes ≤ 140737488355328 := hbytes
            have hneed' : len + n ≤ 4611686018427387904 := hneed
            have hz := noInt_cases ht hno
            have hlX := lenA_ok (cx := cx) (w := w) hn hx
            have hxl : ∀ p l c, x = .one (.slice p l c) → n ≤ l := fun p l c e => by subst e; cases hn; exact Nat.le_refl _
            split
            · trivial
            · trivial
            · rename_i new z1 hnew hrow
              obtain ⟨news, hf, hnr, hnl⟩ := first_ok (cx := cx) hR hnew hx hxl
              have hRd : R π σ w.drew := hR.heap rfl
              obtain ⟨news', hf', hnr', hnl'⟩ := first_ok (cx := cx) hRd hnew hx hxl
              obtain ⟨z, hzv, hzs⟩ := rowOne (cx := cx) hrow π w.drew
              rw [beq_eq]
              by_cases h0 : n = 0
              · rw [decide_eq_true h0]; subst h0
                have hnn : news = [] := List.length_eq_zero_iff.1 (by simpa using hnl)
                subst hnn
                cases p with
                | none =>
                  have hs' := hs
                  simp only [RA] at hs
                  obtain ⟨rfl, rfl⟩ := hs
                  refine yields_val (x := .slice none 0 0) ?_ hs'
                  rw [append_in e0 ev0 ev1 hu hi hz hlX hf (Nat.le_refl _)]; rfl
                | some p =>
                  have hs' := hs
                  simp only [RA] at hs
                  obtain ⟨b, base, bs, ad, cp, hp, rfl, hle, hcap⟩ := hs
                  refine yields_val (x := .slice (some ⟨b, ad, none⟩) len cp) ?_ hs'
                  rw [append_in e0 ev0 ev1 hu hi hz hlX hf (by omega)]; rfl
              · rw [decide_eq_false h0]
                simp only [cond_false]
                exact append_to_ok hR e0 ev0 ev1 hu hi hz hs hlX hf hnr hnl hf' hnr' hnl' hzv hzs hsz hbytes' hneed' h0
        · trivial
      · trivial
    · trivial
  · trivial
end Go.Run
