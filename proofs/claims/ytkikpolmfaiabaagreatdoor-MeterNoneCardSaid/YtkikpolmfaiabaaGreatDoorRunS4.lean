import Derived.Test.YtkikpolmfaiabaaGreatDoorRunS3
import Derived.ChangeKeysEq
namespace Go.Run

theorem cellOf_ok (π : Pl) {v : Value} {c : CV} (h : cellOf v = some c) : RC π c v := by
  unfold cellOf at h
  split at h <;> first
    | (cases h; first | rfl | exact ⟨rfl, rfl⟩)
    | skip
  · rename_i f a b
    cases ha : a.toList.isEmpty <;> cases hb : b.toList.isEmpty <;> simp [ha, hb] at h
    subst h
    simp at ha hb
    subst ha hb
    exact ⟨#[], rfl, trivial⟩
  · cases h
theorem cellsOf'_ok (π : Pl) : ∀ {vs : List Value} {l : List CV}, cellsOf' vs = some l → RL π l vs
  | [], l, h => by simp [cellsOf'] at h; subst h; trivial
  | v :: r, l, h => by
    simp only [cellsOf'] at h
    split at h
    · rename_i c l' hc hl
      cases h
      exact ⟨cellOf_ok π hc, cellsOf'_ok π hl⟩
    · cases h
theorem ofVal_ok (π : Pl) (v : Value) : RA π (ofVal v) v := by
  unfold ofVal
  split
  · split
    · rename_i h; simp only [RA]; exact ⟨_, rfl, cellsOf'_ok π h⟩
    · simp [RA]
  · rename_i vs
    cases h : vs.toList.isEmpty
    · simp [RA]
    · simp at h; subst h; simp [RA, RT]
  · split
    · rename_i h; simp only [RA]; exact cellOf_ok π h
    · simp [RA]

/-- the temporaries, and the variables' addresses -/
structure RE (π : Pl) (env : Env) (a : Act) : Prop where
  tmp : ∀ t, RA π (env.t.get .bad t) (a.tmps.getD t undef)
  glob : ∀ g, RA π (env.g.get .bad g) (.pointer (some ⟨g, 0, none⟩))
theorem RE.mono {π π' : Pl} (h : π.le π') {env : Env} {a : Act} (e : RE π env a) : RE π' env a := ⟨fun t => (e.tmp t).mono h, fun g => (e.glob g).mono h⟩

variable {cx : Cx} {π : Pl} {σ : St} {w : World} {env : Env} {a : Act}

theorem evA_ok (e : RE π env a) (x : Operand) : RA π (evA x env) (a.eval x) := by
  cases x with
  | tmp t => exact e.tmp t
  | const v => exact ofVal_ok π v
  | global g => exact e.glob g
  | func f => show RA π (.one (.func f [])) _; simp only [RA]; exact ⟨#[], rfl, trivial⟩

theorem RE.put (e : RE π env a) {d : Option Tmp} (hd : ∀ t, d = some t → t < a.tmps.size) {v : AV} {x : Value} (h : RA π v x) : RE π (putA env d v) (a.put d x) := by
  cases d with
  | none => exact e
  | some t =>
    refine ⟨fun u => ?_, e.glob⟩
    show RA π ((env.t.set .bad v t).get .bad u) ((a.tmps.setIfInBounds t x).getD u undef)
    rw [Tr.get_set]
    have ht := hd t rfl
    by_cases hu : u = t
    · subst hu; rw [if_pos rfl]; simpa [Array.getD_eq_getD_getElem?, Array.getElem?_setIfInBounds, ht] using h
    · rw [if_neg hu]
      have := e.tmp u
      simpa [Array.getD_eq_getD_getElem?, Array.getElem?_setIfInBounds, Ne.symm hu] using this

/-! Types. -/
theorem und_run {t : TypeId} {d : TypeDesc} (h : und cx t = some d) (w : World) : (underlying t).run cx.P w = .ok d w := run_underlying h w
theorem size_info {t : TypeId} {n : Nat} (h : size cx t = some n) : ∃ i, cx.P.info? t = some i ∧ i.size = n := by
  unfold size at h
  split at h
  · rename_i i hi; cases h; exact ⟨i, hi, rfl⟩
  · cases h
theorem size_run {t : TypeId} {n : Nat} (h : size cx t = some n) (w : World) : (sizeOf t).run cx.P w = .ok n w := by
  obtain ⟨i, hi, rfl⟩ := size_info h
  simp [sizeOf, typeInfo, hi]
theorem isAgg_run {t : TypeId} {b : Bool} (h : isAgg cx t = some b) (w : World) : (Go.isAgg t).run cx.P w = .ok b w := by
  unfold isAgg at h
  split at h
  · rename_i hu; cases h; simp [Go.isAgg, und_run hu]
  · rename_i hu; cases h; simp [Go.isAgg, und_run hu]
  · rename_i d h1 h2 hu
    cases h
    simp only [Go.isAgg, Sem.run_bind, und_run hu, Result.andThen_ok]
    rfl
  · cases h
theorem zero_run {t : TypeId} (h : zero cx t ≠ .bad) (π : Pl) (w : World) : ∃ v, (zeroValue t).run cx.P w = .ok v w ∧ RA π (zero cx t) v := by
  unfold zero at h ⊢
  cases hi : cx.P.info? t with
  | none => simp [hi] at h
  | some i =>
    cases hz : i.zero with
    | none => simp [hi, hz] at h
    | some v => exact ⟨v, by simp [zeroValue, typeInfo, hi, hz], by simpa [hi, hz] using ofVal_ok π v⟩
theorem cells_ok {v : AV} {l : List CV} (h : v.cells = some l) {x : Value} (hx : RA π v x) : RL π l x.cells.toList := by
  cases v with
  | one c =>
    cases h
    simp only [RA] at hx
    have := hx.oneCell
    cases x <;> first | (simp [Value.oneCell'] at this; done) | exact ⟨hx, trivial⟩
  | agg m => cases h; simp only [RA] at hx; obtain ⟨b, rfl, hb⟩ := hx; exact hb
  | bad => cases h
  | tup m => cases h
theorem zeroCells_run {t : TypeId} {l : List CV} (h : zeroCells cx t = some l) (π : Pl) (w : World) : ∃ v, (zeroValue t).run cx.P w = .ok v w ∧ RL π l v.cells.toList := by
  have hne : zero cx t ≠ .bad := fun e => by unfold zeroCells at h; rw [e] at h; cases h
  obtain ⟨v, hv, hr⟩ := zero_run hne π w
  exact ⟨v, hv, cells_ok h hr⟩

/-! Parts, loads, stores. -/
theorem part_ok {t : TypeId} {l : List CV} {off : Nat} {v : AV} (h : partA cx t l off = some v) {cs : Array Value} (hl : RL π l cs.toList) (w : World) : ∃ x, (part t cs off).run cx.P w = .ok x w ∧ RA π v x := by
  unfold partA at h
  split at h
  · rename_i ha
    split at h
    · rename_i n hn
      split at h
      · rename_i m hm
        cases h
        rw [dropN_eq] at hm
        obtain ⟨rfl, hle⟩ := takeN_eq _ _ _ hm
        refine ⟨.agg (cs.extract off (off + n)), by simp [part, isAgg_run ha, size_run hn], ?_⟩
        simp only [RA]
        refine ⟨_, rfl, ?_⟩
        have := (hl.drop off).take n
        simpa [Array.toList_extract, List.take_drop] using this
      · cases h
    · cases h
  · rename_i ha
    split at h
    · rename_i c hc
      cases h
      rw [nth_eq] at hc
      obtain ⟨x, hx, hr⟩ := hl.get hc
      refine ⟨x, ?_, by simpa only [RA] using hr⟩
      simp at hx
      simp [part, isAgg_run ha, hx]
    · cases h
  · cases h

theorem load_ok (hR : R π σ w) {t : TypeId} {v v' : AV} (h : loadA cx t v σ = some v') {x : Value} (hx : RA π v x) : ∃ y, (Instr.loadAt t x).run cx.P w = .ok y w ∧ RA π v' y := by
  unfold loadA at h
  split at h
  · rename_i i o
    split at h
    · rename_i l e ex hi
      obtain ⟨⟨b, base, sz⟩, hp, hb⟩ := hR.blk i _ hi
      simp only [RA] at hx
      obtain ⟨b', base', sz', hp', rfl⟩ := hx
      simp only at hp'
      rw [hp] at hp'; cases hp'
      unfold partA at h
      split at h
      · rename_i ha
        split at h
        · rename_i n hn
          split at h
          · rename_i m hm
            cases h
            obtain ⟨ms, h1, h2, h3⟩ := hb.read hm
            have hl := run_loadCells_list (P := cx.P) w ⟨b, base + o, none⟩ ms (fun j v hj => by rw [Addr.add_mid]; exact h3 j v hj)
            rw [h2] at hl
            refine ⟨.agg ms.toArray, ?_, ?_⟩
            · simp [Instr.loadAt, Instr.sureAddr, loadVar, isAgg_run ha, size_run hn, hl]
            · simp only [RA]; exact ⟨_, rfl, by simpa using h1⟩
          · cases h
        · cases h
      · rename_i ha
        split at h
        · rename_i c hc
          cases h
          obtain ⟨y, h1, h2⟩ := hb.one hc
          refine ⟨y, ?_, by simpa only [RA] using h1⟩
          simp [Instr.loadAt, Instr.sureAddr, loadVar, isAgg_run ha, h2]
        · cases h
      · cases h
    · cases h
  · cases h

theorem yields_outV {s : Sem Value} {o : Option AV} (h : ∀ v, o = some v → ∃ x, s.run cx.P w = .ok x w ∧ RA π v x) : Yields cx.P π σ w s (outV o) := by
  cases o with
  | none => trivial
  | some v => exact h v rfl

theorem store_ok (hR : R π σ w) {t : TypeId} {p v : AV} {x y : Value} (hx : RA π p x) (hy : RA π v y) : YieldsU cx.P π σ w (Instr.storeAt t x y) (storeA cx t p v σ) := by
  unfold storeA
  split
  · rename_i i o
    split
    · rename_i l e ex hi
      split
      · rename_i cs n hc hn
        cases hb : Nat.beq (lenN cs) n
        · trivial
        · have hlen : cs.length = n := by rw [← lenN_eq]; exact Nat.eq_of_beq_eq_true hb
          simp only [cond_true]
          split
          · rename_i l' ho
            simp only [RA] at hx
            obtain ⟨b, base, sz, hp, rfl⟩ := hx
            have hv := cells_ok hc hy
            obtain ⟨g1, g2, g3⟩ := hR.write hi ho hv hp
            refine ⟨rfl, _, π, ?_, g2, g3⟩
            have hsz : y.cells.size = n := by have := hv.length; simp at this; omega
            simp [Instr.storeAt, Instr.sureAddr, storeVar, size_run hn, hsz, g1]
          · trivial
      · trivial
    · trivial
  · trivial

/-! New variables. -/
theorem new_var {e : TypeId} {l : List CV} {v : Value} (h : RL π l v.cells.toList) (w : World) :
    ∃ x w1 pl, (do pure (Value.pointer (some (← newVar e v))) : Sem Value).run cx.P w = .ok x w1 ∧ NewOk π w w1 pl (.cells l e true) (fun i => .one (.ptr (some (i, 0)))) x := by
  have hn := newOk_row (w := w) h e [] (ex := true) (fun _ => rfl) (f := fun i => .one (.ptr (some (i, 0)))) (v := .pointer (some ⟨w.heap.size, 0, none⟩)) (fun i hi => by
    simp only [RA]; exact ⟨_, _, _, Pl.upd_same _ _ _, rfl⟩)
  refine ⟨_, _, _, ?_, hn⟩
  simp [newVar, newRow, World.alloc_eq]
theorem alloc_ok {e : TypeId} : Yields cx.P π σ w (Instr.alloc e true (.tuple #[])) (newCells e (zeroCells cx e)) := by
  unfold newCells
  split
  · rename_i l hl
    obtain ⟨v, hv, hr⟩ := zeroCells_run hl π w
    obtain ⟨x, w1, pl, h1, h2⟩ := new_var (cx := cx) (e := e) hr w
    refine ⟨x, w1, pl, ?_, h2⟩
    simp only [Instr.alloc, Sem.run_bind, hv, Result.andThen_ok]
    exact h1
  · trivial
theorem box_ok {e : TypeId} {v : AV} {x : Value} (hx : RA π v x) : Yields cx.P π σ w (Instr.box e x) (newCells e v.cells) := by
  unfold newCells
  split
  · rename_i l hl
    obtain ⟨y, w1, pl, h1, h2⟩ := new_var (cx := cx) (e := e) (cells_ok hl hx) w
    exact ⟨y, w1, pl, h1, h2⟩
  · trivial
end Go.Run
