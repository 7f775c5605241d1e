import Derived.Test.YtkikpolmfaiabaaGreatDoorRunS20
namespace Go.Run
variable {cx : Cx} {π : Pl} {σ : St} {w : World} {env : Env} {a : Act}

theorem REs.erase : ∀ (q : Nat) (es : List (CV × AV × Nat)) (ms : List MapEntry), REs π es ms → REs π (es.eraseIdx q) (ms.eraseIdx q)
  | _, [], [], _ => by simp [REs]
  | 0, _ :: _, _ :: _, h => by simp only [List.eraseIdx_cons_zero]; exact h.2
  | q + 1, _ :: es, _ :: ms, h => by simp only [List.eraseIdx_cons_succ]; exact ⟨h.1, REs.erase q es ms h.2⟩
  | _, [], _ :: _, h => h.elim
  | _, _ :: _, [], h => h.elim
theorem delete_ok (hR : R π σ w) {ts : Array TypeId} {ty : TypeId} {as : List AV} {vs : Array Value} (h : RT π as vs.toList) : Yields cx.P π σ w (Builtin.delete_ ts ty vs) (deleteB cx ts.toList as σ) := by
  unfold deleteB
  split
  · rename_i t ts' r k as' ht
    obtain ⟨X, l, hv, hx, hr⟩ := h.cons
    obtain ⟨K, l', rfl, hk, hr'⟩ := hr.cons'
    have e0 := tget0 ht
    have ev0 := get0 hv
    have ev1 := get1 hv
    split
    · rename_i kt e hu
      cases hok : okKey cx kt k
      · trivial
      · simp only [cond_true]
        obtain ⟨d, hd, hkind⟩ := okKey_ok hok
        have hkc : RC π k K := by simpa only [RA] using hk
        split
        · rename_i es c hi
          obtain ⟨x', hp, hblk⟩ := hR.blk r _ hi
          simp only [RA] at hx
          obtain ⟨y, hp', rfl⟩ := hx
          rw [hp] at hp'; cases hp'
          obtain ⟨ms, h1, h2⟩ := hblk
          have hck := checkKey_run (cx := cx) (w := w) hd hkind hkc ms.isEmpty
          split
          · rename_i i v' b hf
            obtain ⟨q, m', V', e1, e2, e3, e4, e5, rv, hn⟩ := find_ok hkind hkc es ms.toList 0 _ hf h2
            have hfk := findKey_run (cx := cx) (w := w) hd hn
            have hq : i = q := by omega
            subst hq
            obtain ⟨g1, g2, g3⟩ := hR.setMap (es' := es.eraseIdx i) (c' := c) hi hp (ms := ms.eraseIdxIfInBounds i) (by
              have := REs.erase i es ms.toList h2
              simpa using this)
            refine ⟨.tuple #[], _, π, ?_, g2, by simp [RA, RT], g3⟩
            simp only [Builtin.delete_, e0, ev0, ev1, Sem.run_bind, und_run hu, Result.andThen_ok, getObj, setObj, Sem.run, h1, hck, hfk]
            simp
          · rename_i hf
            have hn := find_ok hkind hkc es ms.toList 0 _ hf h2
            have hfk := findKey_run (cx := cx) (w := w) hd hn
            obtain ⟨g1, g2, g3⟩ := hR.setMap (es' := es) (c' := c) hi hp (ms := ms) h2
            refine ⟨.tuple #[], _, π, ?_, g2, by simp [RA, RT], g3⟩
            simp only [Builtin.delete_, e0, ev0, ev1, Sem.run_bind, und_run hu, Result.andThen_ok, getObj, setObj, Sem.run, h1, hck, hfk]
            simp
          · trivial
        · trivial
    · trivial
  · trivial
end Go.Run
