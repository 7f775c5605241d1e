import Derived.Test.YtkikpolmfaiabaaGreatDoorRunS17
namespace Go.Run
variable {cx : Cx} {π : Pl} {σ : St} {w : World} {env : Env} {a : Act}

theorem REs.modify {f : CV × AV × Nat → CV × AV × Nat} {g : MapEntry → MapEntry} : ∀ (q : Nat) (es : List (CV × AV × Nat)) (ms : List MapEntry), REs π es ms → (∀ e m, ms[q]? = some m → RE1 π e m → RE1 π (f e) (g m)) → REs π (modN f es q) (ms.modify q g)
  | _, [], [], _, _ => by simp [modN, REs]
  | 0, e :: es, m :: ms, h, hf => by simp only [modN, List.modify_zero_cons]; exact ⟨hf e m (by simp) h.1, h.2⟩
  | q + 1, e :: es, m :: ms, h, hf => by simp only [modN, List.modify_succ_cons]; exact ⟨h.1, REs.modify q es ms h.2 (fun e' m' hm => hf e' m' (by simpa using hm))⟩
  | _, [], _ :: _, h, _ => h.elim
  | _, _ :: _, [], h, _ => h.elim
theorem REs.append : ∀ {es fs : List (CV × AV × Nat)} {ms ns : List MapEntry}, REs π es ms → REs π fs ns → REs π (es ++ fs) (ms ++ ns)
  | [], _, [], _, _, h => h
  | _ :: _, _, _ :: _, _, h, h' => ⟨h.1, REs.append h.2 h'⟩
  | [], _, _ :: _, _, h, _ => h.elim
  | _ :: _, _, [], _, h, _ => h.elim

theorem sameBits_self {d : TypeDesc} {k : CV} {K : Value} (hd : KeyKind d k) (hk : RC π k K) (n : Nat) : Instr.sameBits n K K = true := by
  obtain ⟨j, rfl, i, m, rfl⟩ | ⟨rfl, s, rfl⟩ | ⟨rfl, b, rfl⟩ := hd
  · cases hk; simp [Instr.sameBits]
  · cases hk; simp only [Instr.sameBits]; rw [bytesArr_eq, bytesEq_ok]; simp
  · cases hk; simp [Instr.sameBits]
theorem keyStays {d : TypeDesc} {k : CV} {K : Value} (hd : KeyKind d k) (hk : RC π k K) : (Instr.keyThatStays K K).run cx.P w = .ok K w := by
  unfold Instr.keyThatStays
  rw [if_pos (sameBits_self hd hk _)]; rfl

theorem mapUpdate_ok (hR : R π σ w) {t : TypeId} {m k v : AV} {X K V : Value} (hx : RA π m X) (hk : RA π k K) (hv : RA π v V) : YieldsU cx.P π σ w (Instr.mapUpdate t X K V) (mapUpdateA cx t m k v σ) := by
  unfold mapUpdateA
  split
  · rename_i kt e r k hu
    cases hok : okKey cx kt k
    · trivial
    · simp only [cond_true]
      obtain ⟨d, hd, hkind⟩ := okKey_ok hok
      have hkc : RC π k K := by simpa only [RA] using hk
      split
      · rename_i es c hi
        obtain ⟨x', hp, hblk⟩ := hR.blk r _ hi
        simp only [RA] at hx
        obtain ⟨y, hp', rfl⟩ := hx
        rw [hp] at hp'; cases hp'
        obtain ⟨ms, h1, h2⟩ := hblk
        have hck := checkKey_run (cx := cx) (w := w) hd hkind hkc false
        split
        · rename_i i v' b hf
          obtain ⟨q, m', V', e1, e2, e3, e4, e5, _, hn⟩ := find_ok hkind hkc es ms.toList 0 _ hf h2
          have hfk := findKey_run (cx := cx) (w := w) hd hn
          have hq : i = q := by omega
          subst hq
          have e2' : ms[i]? = some m' := by simpa using e2
          obtain ⟨g1, g2, g3⟩ := hR.setMap (es' := modN (fun e => (k, v, e.2.2)) es i) (c' := c) hi hp (ms := ms.modify i fun e => { e with key := K, val := V }) (by
            rw [Array.toList_modify]
            exact REs.modify i es ms.toList h2 fun e m hm he => ⟨hkc, hv, he.2.2⟩)
          refine ⟨rfl, _, π, ?_, g2, g3⟩
          simp only [Instr.mapUpdate, Sem.run_bind, und_run hu, Result.andThen_ok, getObj, Sem.run, h1, hck, hfk, e2', Option.map_some, Option.getD_some, e3, keyStays hkind hkc]
          exact g1 _
        · rename_i hf
          have hn := find_ok hkind hkc es ms.toList 0 _ hf h2
          have hfk := findKey_run (cx := cx) (w := w) hd hn
          obtain ⟨g1, g2, g3⟩ := hR.setMap (es' := es ++ [(k, v, c)]) (c' := Nat.succ c) hi hp (ms := ms.push { key := K, val := V, born := c }) (by
            rw [Array.toList_push]
            exact h2.append ⟨⟨hkc, hv, rfl⟩, trivial⟩)
          refine ⟨rfl, _, π, ?_, g2, g3⟩
          simp only [Instr.mapUpdate, Sem.run_bind, und_run hu, Result.andThen_ok, getObj, Sem.run, h1, hck, hfk]
          exact g1 _
        · trivial
      · trivial
  · trivial
end Go.Run
