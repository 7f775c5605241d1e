import Derived.Test.YtkikpolmfaiabaaGreatDoorRunS16
namespace Go.Run
variable {cx : Cx} {π : Pl} {σ : St} {w : World} {env : Env} {a : Act}

/-- the kinds of keys that are looked for without asking -/
def KeyKind (d : TypeDesc) (k : CV) : Prop := (∃ j, d = .int j ∧ ∃ i n, k = .int i n) ∨ (d = .string ∧ ∃ s, k = .str s) ∨ (d = .bool ∧ ∃ b, k = .bool b)
theorem okKey_ok {t : TypeId} {k : CV} (h : okKey cx t k = true) : ∃ d, und cx t = some d ∧ KeyKind d k := by
  unfold okKey at h
  split at h
  · rename_i hu; exact ⟨_, hu, .inl ⟨_, rfl, _, _, rfl⟩⟩
  · rename_i hu; exact ⟨_, hu, .inr (.inl ⟨rfl, _, rfl⟩)⟩
  · rename_i hu; exact ⟨_, hu, .inr (.inr ⟨rfl, _, rfl⟩)⟩
  · cases h
theorem keyEq_ok {d : TypeDesc} {k c : CV} {K C : Value} {r : Bool} (hd : KeyKind d k) (h : keyEq k c = some r) (hk : RC π k K) (hc : RC π c C) : Instr.sameNow d K C = some r ∧ (r = true → K = C) := by
  unfold keyEq at h
  split at h
  · rename_i j n j' m
    cases hk; cases hc
    cases hj : kindEq j j'
    · rw [hj] at h; cases h
    · have := kindEq_ok hj; subst this
      rw [hj] at h; cases h
      obtain ⟨_, rfl, _⟩ | ⟨_, _, e⟩ | ⟨_, _, e⟩ := hd
      · rw [intEq_ok]; exact ⟨by simp [Instr.sameNow], fun e => by simp at e; rw [e]⟩
      · cases e
      · cases e
  · rename_i s t
    cases hk; cases hc; cases h
    obtain ⟨_, _, _, _, e⟩ | ⟨rfl, _, _⟩ | ⟨_, _, e⟩ := hd
    · cases e
    · rw [← bytesArr_eq]
      refine ⟨by simp [Instr.sameNow], fun e => ?_⟩
      rw [bytesArr_eq, bytesEq_ok] at e
      have : bytesOf s = bytesOf t := by simpa using e
      have : s = t := ByteArray.ext (Array.toList_inj.1 this)
      rw [this]
    · cases e
  · rename_i s t
    cases hk; cases hc; cases h
    obtain ⟨_, _, _, _, e⟩ | ⟨_, _, e⟩ | ⟨rfl, _, _⟩ := hd
    · cases e
    · cases e
    · exact ⟨by simp [Instr.sameNow], fun e => by simp at e; rw [e]⟩
  · cases h

theorem find_ok {d : TypeDesc} {k : CV} {K : Value} (hd : KeyKind d k) (hk : RC π k K) : ∀ (es : List (CV × AV × Nat)) (ms : List MapEntry) (i : Nat) (r : Option (Nat × AV × Nat)), findA k es i = some r → REs π es ms →
    match r with
    | none => Instr.findNow d K ms i = some none
    | some (j, v, b) => ∃ q m V, j = i + q ∧ ms[q]? = some m ∧ m.key = K ∧ m.born = b ∧ m.val = V ∧ RA π v V ∧ Instr.findNow d K ms i = some (some (j, V))
  | [], [], i, r, h, _ => by simp only [findA] at h; cases h; rfl
  | (c, v, b) :: es, m :: ms, i, r, h, hr => by
    obtain ⟨⟨hc, hv, hb⟩, hr⟩ := hr
    simp only at hc hv hb
    unfold findA at h
    split at h
    · rename_i he
      cases h
      obtain ⟨h1, h2⟩ := keyEq_ok hd he hk hc
      exact ⟨0, m, m.val, rfl, rfl, (h2 rfl).symm, hb, rfl, hv, by simp [Instr.findNow, h1]⟩
    · rename_i he
      obtain ⟨h1, h2⟩ := keyEq_ok hd he hk hc
      have := find_ok hd hk es ms (Nat.succ i) r h hr
      have hf : Instr.findNow d K (m :: ms) i = Instr.findNow d K ms (i + 1) := by simp [Instr.findNow, h1]
      cases r with
      | none => rw [hf]; exact this
      | some x =>
        obtain ⟨q, m', V, e1, e2, e3, e4, e5, e6, e7⟩ := this
        exact ⟨q + 1, m', V, by rw [e1]; omega, by simpa using e2, e3, e4, e5, e6, by rw [hf]; exact e7⟩
    · cases h
  | [], _ :: _, _, _, _, h => h.elim
  | _ :: _, [], _, _, _, h => h.elim

theorem checkKey_run' (n : Nat) {d : TypeDesc} {t : TypeId} {k : CV} {K : Value} (hu : und cx t = some d) (hd : KeyKind d k) (hk : RC π k K) (empty : Bool) : (Instr.checkKey empty (n + 1) t K).run cx.P w = .ok () w := by
  obtain ⟨j, rfl, i, n, rfl⟩ | ⟨rfl, s, rfl⟩ | ⟨rfl, b, rfl⟩ := hd
  · cases hk; simp only [Instr.checkKey, Sem.run_bind, und_run hu, Result.andThen_ok]; rfl
  · cases hk; simp only [Instr.checkKey, Sem.run_bind, und_run hu, Result.andThen_ok]; rfl
  · cases hk; simp only [Instr.checkKey, Sem.run_bind, und_run hu, Result.andThen_ok]; rfl
theorem checkKey_run {d : TypeDesc} {t : TypeId} {k : CV} {K : Value} (hu : und cx t = some d) (hd : KeyKind d k) (hk : RC π k K) (empty : Bool) : (Instr.checkKey empty 10000 t K).run cx.P w = .ok () w :=
  checkKey_run' 9999 hu hd hk empty
theorem findKey_run {d : TypeDesc} {t : TypeId} {K : Value} {ms : List MapEntry} {r : Option (Nat × Value)} (hu : und cx t = some d) (h : Instr.findNow d K ms 0 = some r) : (Instr.findKey t K ms).run cx.P w = .ok r w := by
  simp only [Instr.findKey, Sem.run_bind, und_run hu, Result.andThen_ok, h]; rfl

theorem RA_pair {u v : AV} {U V : Value} (h : RA π u U) (h' : RA π v V) : RA π (.tup [u, v]) (.tuple #[U, V]) := by
  simp only [RA]; exact ⟨_, rfl, by simp only [RT]; exact ⟨h, h', trivial⟩⟩
theorem lookIn_ok {t kt e : TypeId} {d : TypeDesc} {X K : Value} {k : CV} {es : List (CV × AV × Nat)} {ms : Array MapEntry} {ok : Bool} (hu : und cx t = some (.map kt e)) (hd : und cx kt = some d) (hkind : KeyKind d k) (hk : RC π k K) (hes : REs π es ms.toList)
    (hX : X = .map none ∧ ms = #[] ∨ ∃ r c, X = .map (some r) ∧ w.heap[r]? = some (.map ms c)) : Yields cx.P π σ w (Instr.lookup t X K ok) (lookIn cx e ok (findA k es 0)) := by
  cases hf : findA k es 0 with
  | none => trivial
  | some o =>
    have h := find_ok hkind hk es ms.toList 0 o hf hes
    have hck := checkKey_run (cx := cx) (w := w) hd hkind hk ms.isEmpty
    cases o with
    | none =>
      have hfk := findKey_run (cx := cx) (w := w) hd h
      simp only [lookIn]
      split
      · trivial
      · rename_i hne
        obtain ⟨z, hz, rz⟩ := zero_run (cx := cx) (t := e) hne π w
        refine yields_val (x := if ok then .tuple #[z, .bool false] else z) ?_ ?_
        · rcases hX with ⟨rfl, rfl⟩ | ⟨r, c, rfl, hr⟩
          · simp only [Instr.lookup, Sem.run_bind, und_run hu, Result.andThen_ok, Sem.run_pure, hck, hfk, hz]
          · simp only [Instr.lookup, Sem.run_bind, und_run hu, Result.andThen_ok, getObj, Sem.run, hr, Sem.run_pure, hck, hfk, hz]
        · cases ok
          · exact rz
          · exact RA_pair rz (RA_bool _)
    | some x =>
      obtain ⟨q, m, V, _, _, _, _, _, rv, hn⟩ := h
      have hfk := findKey_run (cx := cx) (w := w) hd hn
      simp only [lookIn]
      refine yields_val (x := if ok then .tuple #[V, .bool true] else V) ?_ ?_
      · rcases hX with ⟨rfl, rfl⟩ | ⟨r, c, rfl, hr⟩
        · simp only [Instr.lookup, Sem.run_bind, und_run hu, Result.andThen_ok, Sem.run_pure, hck, hfk]
        · simp only [Instr.lookup, Sem.run_bind, und_run hu, Result.andThen_ok, getObj, Sem.run, hr, Sem.run_pure, hck, hfk]
      · cases ok
        · exact rv
        · exact RA_pair rv (RA_bool _)
theorem lookup_ok (hR : R π σ w) {t : TypeId} {x k : AV} {ok : Bool} {X K : Value} (hx : RA π x X) (hk : RA π k K) : Yields cx.P π σ w (Instr.lookup t X K ok) (lookupA cx t x k ok σ) := by
  unfold lookupA
  split
  · rename_i kt e k hu
    cases hok : okKey cx kt k
    · trivial
    · simp only [cond_true]
      obtain ⟨d, hd, hkind⟩ := okKey_ok hok
      have hkc : RC π k K := by simpa only [RA] using hk
      split
      · rename_i es hes
        unfold mapOf at hes
        split at hes
        · cases hes
          have e2 : X = .map none := by simpa [RA, RC] using hx
          exact lookIn_ok hu hd hkind hkc (ms := #[]) trivial (.inl ⟨e2, rfl⟩)
        · rename_i r
          split at hes
          · rename_i es' c hi
            cases hes
            obtain ⟨x', hp, hblk⟩ := hR.blk r _ hi
            simp only [RA] at hx
            obtain ⟨y, hp', rfl⟩ := hx
            rw [hp] at hp'; cases hp'
            obtain ⟨ms, h1, h2⟩ := hblk
            exact lookIn_ok hu hd hkind hkc h2 (.inr ⟨_, _, rfl, h1⟩)
          · cases hes
        · cases hes
      · trivial
  · trivial
end Go.Run
