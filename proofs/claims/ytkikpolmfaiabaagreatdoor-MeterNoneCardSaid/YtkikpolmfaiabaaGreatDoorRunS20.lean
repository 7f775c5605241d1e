import Derived.Test.YtkikpolmfaiabaaGreatDoorRunS19
namespace Go.Run
variable {cx : Cx} {π : Pl} {σ : St} {w : World} {env : Env} {a : Act}

theorem putBorn_ok {b : Nat} {v : AV} {V : Value} (hv : RA π v V) : ∀ (es es' : List (CV × AV × Nat)) (ms : List MapEntry), putBorn b v es = some es' → REs π es ms →
    ∃ i, ms.findIdx? (fun e => (e.born : Int) == (b : Int)) = some i ∧ REs π es' (ms.modify i fun e => { e with val := V })
  | [], _, [], h, _ => by simp [putBorn] at h
  | e :: es, es', m :: ms, h, hr => by
    obtain ⟨⟨h1, h2, h3⟩, hr⟩ := hr
    unfold putBorn at h
    rw [beq_eq] at h
    by_cases hb : e.2.2 = b
    · rw [decide_eq_true hb] at h
      cases h
      refine ⟨0, ?_, ?_⟩
      · have : m.born = b := by rw [h3, hb]
        simp [List.findIdx?_cons, this]
      · simp only [List.modify_zero_cons]; exact ⟨⟨h1, hv, h3⟩, hr⟩
    · rw [decide_eq_false hb] at h
      simp only [cond_false] at h
      split at h
      · rename_i l hl
        cases h
        obtain ⟨i, g1, g2⟩ := putBorn_ok hv es l ms hl hr
        refine ⟨i + 1, ?_, ?_⟩
        · have : ¬ (m.born = b) := by rw [h3]; exact hb
          have hne : ((m.born : Int) == (b : Int)) = false := by simp; omega
          simp [List.findIdx?_cons, hne, g1]
        · simp only [List.modify_succ_cons]; exact ⟨⟨h1, h2, h3⟩, g2⟩
      · cases h
  | [], _, _ :: _, _, h => h.elim
  | _ :: _, _, [], _, h => h.elim
theorem entryStore_ok (hR : R π σ w) {t : TypeId} {m s v : AV} {X S V : Value} (hx : RA π m X) (hs : RA π s S) (hv : RA π v V) : YieldsU cx.P π σ w (Instr.entryStore t X S V) (entryStoreA m s v σ) := by
  unfold entryStoreA
  split
  · rename_i r b hb
    obtain ⟨k, rfl⟩ := natOf_ok hb hs
    split
    · rename_i es c hi
      obtain ⟨x', hp, hblk⟩ := hR.blk r _ hi
      simp only [RA] at hx
      obtain ⟨y, hp', rfl⟩ := hx
      rw [hp] at hp'; cases hp'
      obtain ⟨ms, h1, h2⟩ := hblk
      split
      · rename_i es' he
        obtain ⟨i, g1, g2⟩ := putBorn_ok hv es es' ms.toList he h2
        obtain ⟨k1, k2, k3⟩ := hR.setMap (es' := es') (c' := c) hi hp (ms := ms.modify i fun e => { e with val := V }) (by rw [Array.toList_modify]; exact g2)
        refine ⟨rfl, _, π, ?_, k2, k3⟩
        have g1' : ms.findIdx? (fun e => (e.born : Int) == (b : Int)) = some i := by
          have h := List.findIdx?_toArray (p := fun e : MapEntry => (e.born : Int) == (b : Int)) (l := ms.toList)
          simpa using h.trans g1
        simp only [Instr.entryStore, Sem.run_bind, getObj, Sem.run, h1, Result.andThen_ok, asInt, asIntOf, Sem.run_pure, g1']
        exact k1 _
      · trivial
    · trivial
  · trivial
end Go.Run
