import Derived.Test.YtkikpolmfaiabaaGreatDoorRunD4
namespace Go.Run

structure At (r : Rg) (n : Nat) (π0 : Pl) (σs : St) (w0 : World) (T : List Ev) (D : Nat → Bool) (a : Act) (w : World) : Prop where
  down : ∀ j, D j = true → ∀ i, bef r.ms i j = true → D i = true
  st : ∃ π env, R π (stD D T r.σ0) w ∧ RE π env a ∧ env.g = r.cx.g ∧ (∀ t, env.t.get .bad t = valD D T (r.env0.t.get .bad t) t) ∧ Go π0 σs w0 π (stD D T r.σ0) w ∧
    r.σ0.next ≤ (stD D T r.σ0).next ∧ XOk π (stD D T r.σ0) w w0.heap.size (xsD D r.base T) ∧ (∀ i, i < r.res → D i = false → π (r.base + i) = none)
  size : a.tmps.size = n
  defers : a.defers = []

theorem R.more {π : Pl} {σ : St} {w w1 : World} (h : R π σ w) (hm : More w w1) {i : Nat} (hi : π i = none) (hlt : i < σ.next) (x : Nat × Nat × Nat) : R (π.upd i x) σ w1 where
  blk j bj hj := by
    obtain ⟨y, hy, hb⟩ := h.blk j bj hj
    exact ⟨y, Pl.le_upd hi x j y hy, (hb.congr (hm.old _ (own_lt h ⟨j, bj, y, hj, hy, rfl⟩))).mono (Pl.le_upd hi x)⟩
  inj j k bj bk y z hj hk hy hz hne := by
    obtain ⟨y', hy', _⟩ := h.blk j bj hj
    obtain ⟨z', hz', _⟩ := h.blk k bk hk
    have e1 := Pl.le_upd hi x j y' hy'
    have e2 := Pl.le_upd hi x k z' hz'
    rw [e1] at hy; cases hy
    rw [e2] at hz; cases hz
    exact h.inj j k bj bk _ _ hj hk hy' hz' hne
  lt j y hy := by
    by_cases e : j = i
    · subst e; exact hlt
    · rw [Pl.upd_other _ _ e] at hy; exact h.lt j y hy

theorem own_upd {π : Pl} {σ : St} {w : World} (h : R π σ w) {i : Nat} (hi : π i = none) {x : Nat × Nat × Nat} {c : Nat} (ho : own (π.upd i x) σ c) : own π σ c := by
  obtain ⟨j, blk, y, hj, hy, e⟩ := ho
  obtain ⟨z, hz, _⟩ := h.blk j blk hj
  have := Pl.le_upd hi x j z hz
  rw [this] at hy; cases hy
  exact ⟨j, blk, _, hj, hz, e⟩

theorem plus_false {D : Nat → Bool} {j i : Nat} (h : plus D j i = false) : i ≠ j ∧ D i = false := by
  unfold plus at h
  split at h
  · cases h
  · rename_i hne; exact ⟨hne, h⟩

theorem at_step {r : Rg} {n : Nat} {π0 : Pl} {σs : St} {w0 : World} {T1 T2 : List Ev} {ev : Ev} {D : Nat → Bool} {a : Act} {w : World} {ops : Array Oper} {Q : Exit → Act → World → Prop} {K : Act → World → Prop}
    (hops : ops.toList = r.all) (hx : ExtOk r.cx) (hc : CallOk r.cx r.call) (hf : DrawFacts r.all r.ms) (hbase : r.base = σs.next) (hσ0 : r.σ0.next = r.base + r.res) (hd : allB (dstOk n) r.all = true)
    (s : Split r D T1 ev T2) (h : At r n π0 σs w0 (T1 ++ ev :: T2) D a w) (hi : ops[ev.i]? = some ev.o)
    (hK : ∀ a' w', At r n π0 σs w0 (T1 ++ ev :: T2) (plus D ev.i) a' w' → K a' w') : wpOp r.cx.P ops Q ev.i K a w := by
  obtain ⟨π, env, hR, hE, hg, hv, hGo, hn, hX, hres⟩ := h.st
  obtain ⟨envc, hgc, hvc, hout⟩ := s.isOk.out
  have agree : ∀ t, Looks r.all ev.o t → env.t.get .bad t = envc.t.get .bad t := fun t ht => by rw [hv, hvc, s.val_look hf _ ht]
  have hw : wantA r.all env ev.o.guard = wantA r.all envc ev.o.guard := want_agree agree
  have hop : ∀ σ, opT ev.o.op r.cx r.call env σ = opT ev.o.op r.cx r.call envc σ := fun σ => op_agree (hg.trans hgc.symm) agree
  have hdst : ∀ t, ev.o.dst = some t → t < a.tmps.size := dstOk_ok (allB_of hd (List.mem_of_getElem? s.isOk.at_)) h.size
  have hval : ∀ t, (putA env ev.o.dst ev.v).t.get .bad t = valD (plus D ev.i) (T1 ++ ev :: T2) (r.env0.t.get .bad t) t := fun t => by rw [putA_get, hv, s.val_step hf]
  have hdown : ∀ j, plus D ev.i j = true → ∀ i, bef r.ms i j = true → plus D ev.i i = true := fun j hj i hb => by
    have : D i = true := by
      by_cases e : j = ev.i
      · subst e; exact s.pre i hb
      · rw [plus_ne e] at hj; exact h.down j hj i hb
    unfold plus; split
    · rfl
    · exact this
  have wants : ∀ b, wantA r.all envc ev.o.guard = some b → Region.wanted ev.o (yielded ops a.tmps) = b := fun b hb => want_ok hE (by rw [hops, hw, hb])
  unfold wpOp
  simp only [hi]
  unfold OutOk at hout
  cases hk : ev.kind with
  | quiet =>
    rw [hk] at hout
    have hne : ∀ σ, ev.kind ≠ .eff σ := fun σ e => by rw [hk] at e; cases e
    have fin : ∀ x, RA π ev.v x → K (a.put ev.o.dst x) w := fun x hxv => hK _ _
      ⟨hdown, ⟨π, putA env ev.o.dst ev.v, by rw [s.st_same hne]; exact hR, hE.put hdst hxv, by rw [putA_g]; exact hg, hval, by rw [s.st_same hne]; exact hGo, by rw [s.st_same hne]; exact hn,
        by rw [s.st_same hne, s.xs_quiet hk]; exact hX, fun i hi hD => hres i hi (plus_false hD).2⟩, by rw [Act.put_size]; exact h.size, by rw [Act.put_def]; exact h.defers⟩
    rcases hout with ⟨h1, h2⟩ | ⟨h1, h2⟩
    · rw [wants _ h1]
      simp only [Bool.false_eq_true, if_false]
      exact fin undef (by rw [h2]; exact RA_undef π)
    · rw [wants _ h1]
      simp only [if_true]
      obtain ⟨v', hv', hrel⟩ := h2 _ s.reach
      refine .inl (op_sound hx hc hR hE (glob_of hE hg) ?_)
      rw [hop, hv']
      exact fun x hxv => fin x (hrel π x hxv)
  | new b =>
    rw [hk] at hout
    obtain ⟨hlt, h1, f, hvf, hnew⟩ := hout
    have hne : ∀ σ, ev.kind ≠ .eff σ := fun σ e => by rw [hk] at e; cases e
    rw [wants _ h1]
    simp only [if_true]
    refine .inl (op_sound hx hc hR hE (glob_of hE hg) ?_)
    rw [hop, hnew]
    intro x w1 pl hN
    have hi0 : π (r.base + ev.i) = none := hres ev.i hlt s.new
    have hle := Pl.le_upd hi0 pl
    have hpl : pl.1 = w.heap.size := hN.at_
    have hsz : w1.heap.size = w.heap.size + 1 := hN.more.size
    have hgrow := hGo.grow
    have eachOld : ∀ p ∈ xsD D r.base (T1 ++ ev :: T2), ∃ x, (π.upd (r.base + ev.i) pl) p.1 = some x ∧ π p.1 = some x ∧ RB (π.upd (r.base + ev.i) pl) w1 x p.2 ∧ ¬ own (π.upd (r.base + ev.i) pl) (stD D (T1 ++ ev :: T2) r.σ0) x.1 ∧ w0.heap.size ≤ x.1 ∧ x.1 < w.heap.size := fun p hp => by
      obtain ⟨x, k1, k2, k3, k4, k5⟩ := hX.each p hp
      exact ⟨x, hle _ _ k1, k1, (k2.congr (hN.more.old _ k5)).mono hle, fun ho => k3 (own_upd hR hi0 ho), k4, k5⟩
    refine hK _ _ ⟨hdown, ⟨π.upd (r.base + ev.i) pl, putA env ev.o.dst ev.v, ?_, ?_, by rw [putA_g]; exact hg, hval, ?_, by rw [s.st_same hne]; exact hn, ?_, ?_⟩, by rw [Act.put_size]; exact h.size, by rw [Act.put_def]; exact h.defers⟩
    · rw [s.st_same hne]
      exact hR.more hN.more hi0 (by omega) pl
    · exact (hE.mono hle).put hdst (by rw [hvf]; exact hN.val _ hi0)
    · rw [s.st_same hne]
      refine ⟨fun i hi => ?_, hGo.mono, by omega, fun b hb ho => ?_, fun b hb ho => hGo.owns b hb (own_upd hR hi0 ho), hGo.same.trans hN.more.same⟩
      · rw [Pl.upd_other _ _ (by omega)]; exact hGo.ext i hi
      · rw [hN.more.old b (by omega)]; exact hGo.frame b hb ho
    · rw [s.st_same hne]
      refine ⟨fun p hp => ?_, fun p hp q hq hpq y z hy hz => ?_⟩
      · rcases s.xs_new hk p hp with hp | rfl
        · obtain ⟨x, k1, _, k2, k3, k4, k5⟩ := eachOld p hp
          exact ⟨x, k1, k2, k3, k4, by omega⟩
        · refine ⟨pl, Pl.upd_same _ _ _, hN.blk _ hi0, fun ho => ?_, by omega, by omega⟩
          have := own_lt hR (own_upd hR hi0 ho)
          omega
      · rcases s.xs_new hk p hp with hp | rfl
        · obtain ⟨x, k1, k1', _, _, _, k5⟩ := eachOld p hp
          rw [k1] at hy; cases hy
          rcases s.xs_new hk q hq with hq | rfl
          · obtain ⟨x', j1, j1', _⟩ := eachOld q hq
            rw [j1] at hz; cases hz
            exact hX.sep p hp q hq hpq _ _ k1' j1'
          · rw [Pl.upd_same] at hz; cases hz
            omega
        · rw [Pl.upd_same] at hy; cases hy
          rcases s.xs_new hk q hq with hq | rfl
          · obtain ⟨x', j1, j1', _, _, _, j5⟩ := eachOld q hq
            rw [j1] at hz; cases hz
            omega
          · exact absurd rfl hpq
    · intro i hi hD
      obtain ⟨k1, k2⟩ := plus_false hD
      rw [Pl.upd_other _ _ (by omega)]
      exact hres i hi k2
  | eff σ' =>
    rw [hk] at hout
    obtain ⟨hall, hcase⟩ := hout
    have ha : ∀ e ∈ T1, D e.i = true := fun e he => s.pre _ (hall e.i (List.mem_map_of_mem he))
    have hst := s.st_top ha
    have hX1 : XOk π (stD D (T1 ++ ev :: T2) r.σ0) w w0.heap.size (xsD top r.base T1) := hX.sub (s.xs_top ha)
    have hcur : cur r.base r.σ0 T1 = insAll (stD D (T1 ++ ev :: T2) r.σ0) (xsD top r.base T1) := by rw [hst]; rfl
    obtain ⟨hRp, hnext, hown⟩ := hX1.ins hR
    have hGop := hX1.go hR hGo
    rw [← hcur] at hRp hnext hown hGop
    have fin : ∀ x w1 π', R π' σ' w1 → RA π' ev.v x → Go π (cur r.base r.σ0 T1) w π' σ' w1 → K (a.put ev.o.dst x) w1 := by
      intro x w1 π' hR' hxv g
      have hle := hRp.le g
      have notown : ∀ p ∈ xsD (plus D ev.i) r.base (T1 ++ ev :: T2), ∃ x, π p.1 = some x ∧ RB π w x p.2 ∧ ¬ own π (cur r.base r.σ0 T1) x.1 ∧ w0.heap.size ≤ x.1 ∧ x.1 < w.heap.size := fun p hp => by
        obtain ⟨hp, e, he, hidx⟩ := s.xs_eff hk p hp
        obtain ⟨x, k1, k2, k3, k4, k5⟩ := hX.each p hp
        refine ⟨x, k1, k2, fun ho => ?_, k4, k5⟩
        rcases hown _ ho with ho | ⟨q, hq, y, hy, hyx⟩
        · exact k3 ho
        · obtain ⟨e', he', hidx'⟩ := (xs_mem T1 [] q hq).resolve_left (by simp)
          have hne := (s.two e he).2.2.2 e' he'
          exact hX.sep q (s.xs_top ha q hq) p hp (by omega) y x hy k1 hyx
      refine hK _ _ ⟨hdown, ⟨π', putA env ev.o.dst ev.v, by rw [s.st_eff hk]; exact hR', (hE.mono hle).put hdst hxv, by rw [putA_g]; exact hg, hval, by rw [s.st_eff hk]; exact hGop.trans g, ?_, ?_, ?_⟩, by rw [Act.put_size]; exact h.size, by rw [Act.put_def]; exact h.defers⟩
      · rw [s.st_eff hk]
        have := g.mono
        omega
      · rw [s.st_eff hk]
        refine ⟨fun p hp => ?_, fun p hp q hq hpq y z hy hz => ?_⟩
        · obtain ⟨x, k1, k2, k3, k4, k5⟩ := notown p hp
          have := g.grow
          exact ⟨x, hle _ _ k1, (k2.congr (g.frame _ k5 k3)).mono hle, fun ho => k3 (g.owns _ k5 ho), k4, by omega⟩
        · obtain ⟨x, k1, _⟩ := notown p hp
          obtain ⟨x', k1', _⟩ := notown q hq
          rw [hle _ _ k1] at hy; cases hy
          rw [hle _ _ k1'] at hz; cases hz
          exact hX.sep p (s.xs_eff hk p hp).1 q (s.xs_eff hk q hq).1 hpq _ _ k1 k1'
      · intro i hi hD
        obtain ⟨k1, k2⟩ := plus_false hD
        rw [g.ext _ (by omega)]
        exact hres i hi k2
    rcases hcase with ⟨h1, h2, h3⟩ | ⟨h1, h2⟩
    · rw [wants _ h1]
      simp only [Bool.false_eq_true, if_false]
      subst h3
      exact fin undef w π hRp (by rw [h2]; exact RA_undef π) (Go.refl _ _ _)
    · rw [wants _ h1]
      simp only [if_true]
      refine .inl (op_sound hx hc hRp hE (glob_of hE hg) ?_)
      rw [hop]
      rcases h2 with ⟨h2, h3⟩ | h2
      · rw [h2]
        subst h3
        exact fun x hxv => fin x w π hRp hxv (Go.refl _ _ _)
      · rw [h2]
        exact fun x w1 π' k1 k2 k3 => fin x w1 π' k1 k2 k3
end Go.Run
