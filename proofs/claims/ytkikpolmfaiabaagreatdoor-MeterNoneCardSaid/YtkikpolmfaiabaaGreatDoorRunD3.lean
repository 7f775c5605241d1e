import Derived.Test.YtkikpolmfaiabaaGreatDoorRunD2
namespace Go.Run

/-! Folds. -/
theorem foldl_same {α β : Type} {f g : β → α → β} : ∀ (l : List α), (∀ e ∈ l, ∀ b, f b e = g b e) → ∀ b, l.foldl f b = l.foldl g b
  | [], _, _ => rfl
  | e :: l, h, b => by
    simp only [List.foldl_cons]
    rw [h e (List.mem_cons_self ..)]
    exact foldl_same l (fun e he => h e (List.mem_cons_of_mem _ he)) _
theorem foldl_id {α β : Type} {f : β → α → β} : ∀ (l : List α), (∀ e ∈ l, ∀ b, f b e = b) → ∀ b, l.foldl f b = b
  | [], _, _ => rfl
  | e :: l, h, b => by
    simp only [List.foldl_cons]
    rw [h e (List.mem_cons_self ..)]
    exact foldl_id l (fun e he => h e (List.mem_cons_of_mem _ he)) _

/-! Blocks on top of a state. -/
theorem RB.heap {π : Pl} {w w' : World} {x : Nat × Nat × Nat} {b : Blk} (h : RB π w x b) (e : w'.heap = w.heap) : RB π w' x b := h.congr (by rw [e])
theorem Go.heap {π : Pl} {σ : St} {w w' : World} (e : w'.heap = w.heap) (s : Same w w') : Go π σ w π σ w' :=
  ⟨fun _ _ => rfl, Nat.le_refl _, by rw [e]; exact Nat.le_refl _, fun b _ _ => by rw [e], fun b _ h => h, s⟩

theorem R.put_new {π : Pl} {σ : St} {w : World} (h : R π σ w) {i : Nat} {x : Nat × Nat × Nat} {b : Blk} (hx : π i = some x) (hb : RB π w x b)
    (hs : ∀ j blk y, σ.get j = some blk → π j = some y → j ≠ i → y.1 ≠ x.1) : R π (σ.put i b) w where
  blk j bj hj := by
    rw [St.get_put] at hj
    split at hj
    · rename_i e; subst e; cases hj; exact ⟨x, hx, hb⟩
    · exact h.blk j bj hj
  inj j k bj bk y z hj hk hy hz hne := by
    rw [St.get_put] at hj hk
    by_cases e : j = i
    · subst e
      rw [hx] at hy; cases hy
      rw [if_neg (Ne.symm hne)] at hk
      exact (hs k bk z hk hz (Ne.symm hne)).symm
    · rw [if_neg e] at hj
      by_cases e2 : k = i
      · subst e2
        rw [hx] at hz; cases hz
        exact hs j bj y hj hy e
      · rw [if_neg e2] at hk
        exact h.inj j k bj bk y z hj hk hy hz hne
  lt := h.lt

structure XOk (π : Pl) (σ : St) (w : World) (n0 : Nat) (xs : List (Nat × Blk)) : Prop where
  each : ∀ p ∈ xs, ∃ x, π p.1 = some x ∧ RB π w x p.2 ∧ ¬ own π σ x.1 ∧ n0 ≤ x.1 ∧ x.1 < w.heap.size
  sep : ∀ p ∈ xs, ∀ q ∈ xs, p.1 ≠ q.1 → ∀ x y, π p.1 = some x → π q.1 = some y → x.1 ≠ y.1

theorem XOk.sub {π : Pl} {σ : St} {w : World} {n0 : Nat} {xs ys : List (Nat × Blk)} (h : XOk π σ w n0 xs) (hs : ∀ p ∈ ys, p ∈ xs) : XOk π σ w n0 ys :=
  ⟨fun p hp => h.each p (hs p hp), fun p hp q hq => h.sep p (hs p hp) q (hs q hq)⟩

theorem insAll_ok {π : Pl} {w : World} : ∀ (xs : List (Nat × Blk)) (σ : St), R π σ w →
    (∀ p ∈ xs, ∃ x, π p.1 = some x ∧ RB π w x p.2 ∧ ∀ j blk y, σ.get j = some blk → π j = some y → j ≠ p.1 → y.1 ≠ x.1) →
    (∀ p ∈ xs, ∀ q ∈ xs, p.1 ≠ q.1 → ∀ x y, π p.1 = some x → π q.1 = some y → x.1 ≠ y.1) →
    R π (insAll σ xs) w ∧ (insAll σ xs).next = σ.next ∧ ∀ c, own π (insAll σ xs) c → own π σ c ∨ ∃ p ∈ xs, ∃ x, π p.1 = some x ∧ x.1 = c
  | [], σ, h, _, _ => ⟨h, rfl, fun c hc => .inl hc⟩
  | p :: xs, σ, h, h1, h2 => by
    obtain ⟨x, hx, hb, hs⟩ := h1 p (List.mem_cons_self ..)
    have hR := h.put_new hx hb hs
    obtain ⟨k1, k2, k3⟩ := insAll_ok xs (σ.put p.1 p.2) hR (fun q hq => by
      obtain ⟨y, hy, hb2, hs2⟩ := h1 q (List.mem_cons_of_mem _ hq)
      refine ⟨y, hy, hb2, fun j blk z hj hz hne => ?_⟩
      rw [St.get_put] at hj
      by_cases e : j = p.1
      · subst e
        exact h2 p (List.mem_cons_self ..) q (List.mem_cons_of_mem _ hq) hne z y hz hy
      · rw [if_neg e] at hj
        exact hs2 j blk z hj hz hne) (fun q hq s hs => h2 q (List.mem_cons_of_mem _ hq) s (List.mem_cons_of_mem _ hs))
    refine ⟨k1, k2, fun c hc => ?_⟩
    rcases k3 c hc with hc | ⟨q, hq, y, hy, he⟩
    · obtain ⟨j, blk, y, hj, hy, he⟩ := hc
      rw [St.get_put] at hj
      by_cases e : j = p.1
      · subst e; exact .inr ⟨p, List.mem_cons_self .., y, hy, he⟩
      · rw [if_neg e] at hj; exact .inl ⟨j, blk, y, hj, hy, he⟩
    · exact .inr ⟨q, List.mem_cons_of_mem _ hq, y, hy, he⟩

theorem XOk.ins {π : Pl} {σ : St} {w : World} {n0 : Nat} {xs : List (Nat × Blk)} (h : XOk π σ w n0 xs) (hR : R π σ w) :
    R π (insAll σ xs) w ∧ (insAll σ xs).next = σ.next ∧ ∀ c, own π (insAll σ xs) c → own π σ c ∨ ∃ p ∈ xs, ∃ x, π p.1 = some x ∧ x.1 = c :=
  insAll_ok xs σ hR (fun p hp => by
    obtain ⟨x, h1, h2, h3, _, _⟩ := h.each p hp
    exact ⟨x, h1, h2, fun j blk y hj hy _ e => h3 ⟨j, blk, y, hj, hy, e⟩⟩) h.sep

theorem XOk.go {π0 π : Pl} {σs σ : St} {w0 w : World} {xs : List (Nat × Blk)} (h : XOk π σ w w0.heap.size xs) (hR : R π σ w) (g : Go π0 σs w0 π σ w) : Go π0 σs w0 π (insAll σ xs) w := by
  obtain ⟨_, h2, h3⟩ := h.ins hR
  refine ⟨g.ext, by rw [h2]; exact g.mono, g.grow, g.frame, fun b hb ho => ?_, g.same⟩
  rcases h3 b ho with ho | ⟨p, hp, x, hx, he⟩
  · exact g.owns b hb ho
  · obtain ⟨y, hy, _, _, h4, _⟩ := h.each p hp
    rw [hx] at hy; cases hy
    omega

/-! How the run's list stands to what has come up. -/
section
variable {r : Rg} {T : List Ev}

structure Split (r : Rg) (D : Nat → Bool) (T1 : List Ev) (ev : Ev) (T2 : List Ev) : Prop where
  isOk : EvOk r T1 ev
  one : ∀ e ∈ T1, e.i ≠ ev.i ∧ r.all[e.i]? = some e.o ∧ bef r.ms ev.i e.i = false
  two : ∀ e ∈ T2, e.i ≠ ev.i ∧ r.all[e.i]? = some e.o ∧ bef r.ms e.i ev.i = false ∧ (∀ e' ∈ T1, e'.i ≠ e.i)
  aft : ∀ e ∈ T2, bef r.ms ev.i e.i = true → D e.i = false
  eff : ∀ e ∈ T2, ∀ σ, e.kind = .eff σ → D e.i = false
  pre : ∀ i, bef r.ms i ev.i = true → D i = true
  new : D ev.i = false

theorem split_of {D : Nat → Bool} (hT : ∀ T1 ev T2, T = T1 ++ ev :: T2 → EvOk r T1 ev) (hd : ∀ j, D j = true → ∀ i, bef r.ms i j = true → D i = true) {T1 : List Ev} {ev : Ev} {T2 : List Ev} (e : T = T1 ++ ev :: T2)
    (hn : D ev.i = false) (hp : ∀ i, bef r.ms i ev.i = true → D i = true) : Split r D T1 ev T2 := by
  have hev := hT T1 ev T2 e
  have haft : ∀ i, bef r.ms ev.i i = true → D i = false := fun i hb => by
    cases hD : D i with
    | false => rfl
    | true => have := hd _ hD _ hb; rw [hn] at this; cases this
  refine ⟨hev, fun x hx => ?_, fun x hx => ?_, fun x _ hb => haft _ hb, fun x hx σ hk => ?_, hp, hn⟩
  · obtain ⟨A, B, rfl⟩ := List.append_of_mem hx
    have hx1 := hT A x (B ++ ev :: T2) (by rw [e]; simp)
    refine ⟨fun h => hev.fresh (by rw [← h]; simp), hx1.at_, ?_⟩
    cases hb : bef r.ms ev.i x.i with
    | false => rfl
    | true => exact absurd (by simp only [List.map_append, List.mem_append]; exact .inl (hx1.pre _ hb)) hev.fresh
  · obtain ⟨A, B, rfl⟩ := List.append_of_mem hx
    have hx1 := hT (T1 ++ ev :: A) x B (by rw [e]; simp)
    refine ⟨fun h => hx1.fresh (by rw [h]; simp), hx1.at_, ?_, fun y hy h => hx1.fresh (by simp only [List.map_append, List.mem_append]; exact .inl (by rw [← h]; exact List.mem_map_of_mem hy))⟩
    cases hb : bef r.ms x.i ev.i with
    | false => rfl
    | true =>
      have := hev.pre _ hb
      exact absurd (by simp only [List.map_append, List.mem_append]; exact .inl this) hx1.fresh
  · obtain ⟨A, B, rfl⟩ := List.append_of_mem hx
    have hx1 := hT (T1 ++ ev :: A) x B (by rw [e]; simp)
    obtain ⟨env, _, _, ho⟩ := hx1.out
    unfold OutOk at ho
    rw [hk] at ho
    exact haft _ (ho.1 ev.i (by simp))

variable {D : Nat → Bool} {T1 T2 : List Ev} {ev : Ev}

def plus (D : Nat → Bool) (j : Nat) : Nat → Bool := fun i => if i = j then true else D i
theorem plus_ne {j i : Nat} (h : i ≠ j) : plus D j i = D i := by simp [plus, h]
theorem plus_eq (j : Nat) : plus D j j = true := by simp [plus]

/-- who writes what the operation looks at, or writes -/
theorem Split.meet (s : Split r D T1 ev T2) (hf : DrawFacts r.all r.ms) {t : Nat} (ht : Looks r.all ev.o t ∨ ev.o.dst = some t) :
    (∀ e ∈ T1, e.o.dst = some t → D e.i = true) ∧ (∀ e ∈ T2, e.o.dst = some t → D e.i = false) := by
  constructor
  · intro e he hd
    obtain ⟨h1, h2, h3⟩ := s.one e he
    rcases hf.meet e.i ev.i e.o ev.o h2 s.isOk.at_ h1 (meets_of hd ht) with h | h
    · exact s.pre _ h
    · rw [h3] at h; cases h
  · intro e he hd
    obtain ⟨h1, h2, h3, _⟩ := s.two e he
    rcases hf.meet e.i ev.i e.o ev.o h2 s.isOk.at_ h1 (meets_of hd ht) with h | h
    · rw [h3] at h; cases h
    · exact s.aft e he h

theorem Split.val_look (s : Split r D T1 ev T2) (hf : DrawFacts r.all r.ms) (v0 : AV) {t : Nat} (ht : Looks r.all ev.o t) : valD D (T1 ++ ev :: T2) v0 t = valD top T1 v0 t := by
  obtain ⟨h1, h2⟩ := s.meet hf (.inl ht)
  simp only [valD, List.foldl_append, List.foldl_cons]
  rw [foldl_id T2 (fun e he b => by simp only [valStep]; rw [if_neg]; rintro ⟨k1, k2⟩; rw [h2 e he k2] at k1; cases k1)]
  have : ∀ b, valStep D t b ev = b := fun b => by simp only [valStep]; rw [if_neg]; rintro ⟨k1, _⟩; rw [s.new] at k1; cases k1
  rw [this]
  refine foldl_same T1 (fun e he b => ?_) v0
  simp only [valStep, top, true_and]
  by_cases hd : e.o.dst = some t
  · rw [if_pos ⟨h1 e he hd, hd⟩, if_pos hd]
  · rw [if_neg (fun h => hd h.2), if_neg hd]

theorem Split.val_step (s : Split r D T1 ev T2) (hf : DrawFacts r.all r.ms) (v0 : AV) (t : Nat) :
    valD (plus D ev.i) (T1 ++ ev :: T2) v0 t = if ev.o.dst = some t then ev.v else valD D (T1 ++ ev :: T2) v0 t := by
  have e1 : ∀ e ∈ T1, ∀ b, valStep (plus D ev.i) t b e = valStep D t b e := fun e he b => by simp only [valStep]; rw [plus_ne (s.one e he).1]
  have e2 : ∀ e ∈ T2, ∀ b, valStep (plus D ev.i) t b e = valStep D t b e := fun e he b => by simp only [valStep]; rw [plus_ne (s.two e he).1]
  simp only [valD, List.foldl_append, List.foldl_cons]
  rw [foldl_same T1 e1, foldl_same T2 e2]
  by_cases hd : ev.o.dst = some t
  · obtain ⟨_, h2⟩ := s.meet hf (.inr hd)
    rw [if_pos hd]
    rw [foldl_id T2 (fun e he b => by simp only [valStep]; rw [if_neg]; rintro ⟨k1, k2⟩; rw [h2 e he k2] at k1; cases k1)]
    simp only [valStep, plus_eq, hd, and_self, if_true]
  · rw [if_neg hd]
    have : ∀ D b, valStep D t b ev = b := fun D b => by simp only [valStep]; rw [if_neg (fun h => hd h.2)]
    rw [this, this]
end
end Go.Run
