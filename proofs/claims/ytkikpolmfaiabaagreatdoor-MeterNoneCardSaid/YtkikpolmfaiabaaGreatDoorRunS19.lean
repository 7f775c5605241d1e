import Derived.Test.YtkikpolmfaiabaaGreatDoorRunS18
namespace Go.Run
variable {cx : Cx} {π : Pl} {σ : St} {w : World} {env : Env} {a : Act}

theorem mapEntry_ok (hR : R π σ w) {t : TypeId} {m k : AV} {X K : Value} (hx : RA π m X) (hk : RA π k K) : Yields cx.P π σ w (Instr.mapEntry t X K) (mapEntryA cx t m k σ) := by
  unfold mapEntryA
  split
  · rename_i kt e r k hu
    cases hok : okKey cx kt k
    · trivial
    · simp only [cond_true]
      obtain ⟨d, hd, hkind⟩ := okKey_ok hok
      have hkc : RC π k K := by simpa only [RA] using hk
      split
      · rename_i es c hi
        obtain ⟨x', hp, hblk⟩ := hR.blk r _ hi
        simp only [RA] at hx
        obtain ⟨y, hp', rfl⟩ := hx
        rw [hp] at hp'; cases hp'
        obtain ⟨ms, h1, h2⟩ := hblk
        have hck := checkKey_run (cx := cx) (w := w) hd hkind hkc false
        split
        · rename_i i v' b hf
          obtain ⟨q, m', V', e1, e2, e3, e4, e5, rv, hn⟩ := find_ok hkind hkc es ms.toList 0 _ hf h2
          have hfk := findKey_run (cx := cx) (w := w) hd hn
          have hq : i = q := by omega
          subst hq
          have e2' : ms[i]? = some m' := by simpa using e2
          obtain ⟨g1, g2, g3⟩ := hR.setMap (es' := modN (fun e => (k, e.2)) es i) (c' := c) hi hp (ms := ms.modify i fun e => { e with key := K }) (by
            rw [Array.toList_modify]
            exact REs.modify i es ms.toList h2 fun e m hm he => ⟨hkc, he.2.1, he.2.2⟩)
          refine ⟨.tuple #[V', .int .i64 b], _, π, ?_, g2, RA_pair rv (RA_int _ _), g3⟩
          have hg := g1 cx.P
          simp only [setObj] at hg
          simp only [Instr.mapEntry, Sem.run_bind, und_run hu, Result.andThen_ok, getObj, setObj, Sem.run, h1, hck, hfk, e2', Option.map_some, Option.getD_some, e3, keyStays hkind hkc, e4]
          simp [Sem.run, goInt]
        · rename_i hf
          have hn := find_ok hkind hkc es ms.toList 0 _ hf h2
          have hfk := findKey_run (cx := cx) (w := w) hd hn
          split
          · trivial
          · rename_i hne
            obtain ⟨z, hz, rz⟩ := zero_run (cx := cx) (t := e) hne π w
            obtain ⟨g1, g2, g3⟩ := hR.setMap (es' := es ++ [(k, zero cx e, c)]) (c' := Nat.succ c) hi hp (ms := ms.push { key := K, val := z, born := c }) (by
              rw [Array.toList_push]
              exact h2.append ⟨⟨hkc, rz, rfl⟩, trivial⟩)
            refine ⟨.tuple #[z, .int .i64 c], _, π, ?_, g2, RA_pair rz (RA_int _ _), g3⟩
            simp only [Instr.mapEntry, Sem.run_bind, und_run hu, Result.andThen_ok, getObj, setObj, Sem.run, h1, hck, hfk, hz]
            simp [Sem.run, goInt]
        · trivial
      · trivial
  · trivial
end Go.Run
