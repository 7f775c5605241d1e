import Derived.Test.YtkikpolmfaiabaaGreatDoorRunS2
namespace Go.Run

def Pl.upd (π : Pl) (i : Nat) (x : Nat × Nat × Nat) : Pl := fun j => if j = i then some x else π j
theorem Pl.le_upd {π : Pl} {i : Nat} (h : π i = none) (x : Nat × Nat × Nat) : π.le (π.upd i x) := fun j y e => by
  unfold Pl.upd; split
  · rename_i hj; subst hj; rw [h] at e; cases e
  · exact e
theorem Pl.upd_same (π : Pl) (i : Nat) (x : Nat × Nat × Nat) : π.upd i x i = some x := by simp [Pl.upd]
theorem Pl.upd_other (π : Pl) {i j : Nat} (x : Nat × Nat × Nat) (h : j ≠ i) : π.upd i x j = π j := by simp [Pl.upd, h]

/-- the world has one block more -/
structure More (w w1 : World) : Prop where
  size : w1.heap.size = w.heap.size + 1
  old : ∀ b, b < w.heap.size → w1.heap[b]? = w.heap[b]?
  same : Same w w1

structure NewOk (π : Pl) (w w1 : World) (x : Nat × Nat × Nat) (b : Blk) (f : Nat → AV) (v : Value) : Prop where
  at_ : x.1 = w.heap.size
  more : More w w1
  blk : ∀ i, π i = none → RB (π.upd i x) w1 x b
  val : ∀ i, π i = none → RA (π.upd i x) (f i) v

theorem R.add {π : Pl} {σ σ1 : St} {w w1 : World} (h : R π σ w) {i : Nat} (hi : π i = none) {x : Nat × Nat × Nat} {b : Blk} (hx : x.1 = w.heap.size) (hm : More w w1) (hb : RB (π.upd i x) w1 x b)
    (hg : ∀ j, σ1.get j = if j = i then some b else σ.get j) (hn : σ.next ≤ σ1.next) (hin : i < σ1.next) : R (π.upd i x) σ1 w1 where
  blk j bj hj := by
    rw [hg] at hj
    by_cases e : j = i
    · subst e; simp at hj; subst hj; exact ⟨x, Pl.upd_same _ _ _, hb⟩
    · simp [e] at hj
      obtain ⟨y, hy, hbj⟩ := h.blk j bj hj
      exact ⟨y, by rw [Pl.upd_other _ _ e]; exact hy, (hbj.congr (hm.old _ (own_lt h ⟨j, bj, y, hj, hy, rfl⟩))).mono (Pl.le_upd hi x)⟩
  inj j k bj bk y z hj hk hy hz hne := by
    rw [hg] at hj hk
    by_cases e : j = i
    · subst e
      rw [Pl.upd_same] at hy; cases hy
      have hk' : σ.get k = some bk := by simpa [Ne.symm hne] using hk
      rw [Pl.upd_other _ _ (Ne.symm hne)] at hz
      have := own_lt h ⟨k, bk, z, hk', hz, rfl⟩
      omega
    · have hj' : σ.get j = some bj := by simpa [e] using hj
      rw [Pl.upd_other _ _ e] at hy
      by_cases e2 : k = i
      · subst e2
        rw [Pl.upd_same] at hz; cases hz
        have := own_lt h ⟨j, bj, y, hj', hy, rfl⟩
        omega
      · have hk' : σ.get k = some bk := by simpa [e2] using hk
        rw [Pl.upd_other _ _ e2] at hz
        exact h.inj j k bj bk y z hj' hk' hy hz hne
  lt j y hy := by
    by_cases e : j = i
    · subst e; exact hin
    · rw [Pl.upd_other _ _ e] at hy; exact Nat.lt_of_lt_of_le (h.lt j y hy) hn

theorem R.next_none {π : Pl} {σ : St} {w : World} (h : R π σ w) {i : Nat} (hi : σ.next ≤ i) : π i = none := by
  cases e : π i with
  | none => rfl
  | some x => have := h.lt i x e; omega
theorem R.get_none {π : Pl} {σ : St} {w : World} (h : R π σ w) {i : Nat} (hi : π i = none) : σ.get i = none := by
  cases e : σ.get i with
  | none => rfl
  | some b => obtain ⟨x, hx, _⟩ := h.blk i b e; rw [hi] at hx; cases hx

theorem R.push {π : Pl} {σ : St} {w w1 : World} (h : R π σ w) {x : Nat × Nat × Nat} {b : Blk} {f : Nat → AV} {v : Value} (hn : NewOk π w w1 x b f v) :
    R (π.upd σ.next x) (σ.push b) w1 ∧ RA (π.upd σ.next x) (f σ.next) v ∧ Go π σ w (π.upd σ.next x) (σ.push b) w1 := by
  have h0 := h.next_none (Nat.le_refl _)
  refine ⟨h.add h0 hn.at_ hn.more (hn.blk _ h0) (fun j => St.get_push σ j b) (Nat.le_succ _) (Nat.lt_succ_self _), hn.val _ h0, ?_⟩
  refine ⟨fun i hi => Pl.upd_other _ _ (by omega), Nat.le_succ _, by rw [hn.more.size]; omega, fun b' hb' _ => hn.more.old b' hb', fun b' hb' ho => ?_, hn.more.same⟩
  obtain ⟨j, bj, y, hj, hy, rfl⟩ := ho
  rw [St.get_push] at hj
  by_cases e : j = σ.next
  · subst e; rw [Pl.upd_same] at hy; cases hy; have := hn.at_; omega
  · simp [e] at hj; rw [Pl.upd_other _ _ e] at hy; exact ⟨j, bj, y, hj, hy, rfl⟩

theorem R.kill {π : Pl} {σ : St} {w : World} (h : R π σ w) (i : Nat) : R π (σ.kill i) w ∧ Go π σ w π (σ.kill i) w := by
  have hk : ∀ {j b}, (σ.kill i).get j = some b → σ.get j = some b := fun {j b} hj => by
    rw [St.get_kill] at hj; split at hj
    · cases hj
    · exact hj
  exact ⟨⟨fun j b hj => h.blk j b (hk hj), fun j k bj bk x y hj hk' => h.inj j k bj bk x y (hk hj) (hk hk'), h.lt⟩,
    ⟨fun _ _ => rfl, Nat.le_refl _, Nat.le_refl _, fun _ _ _ => rfl, fun b _ ⟨j, bj, x, hj, hx, e⟩ => ⟨j, bj, x, hk hj, hx, e⟩, Same.refl w⟩⟩

/-- a map is set anew -/
theorem R.setMap {π : Pl} {σ : St} {w : World} (h : R π σ w) {i : Nat} {es es' : List (CV × AV × Nat)} {c c' : Nat} (hi : σ.get i = some (.map es c)) {x : Nat × Nat × Nat} (hx : π i = some x)
    {ms : Array MapEntry} (hr : REs π es' ms.toList) :
    (∀ (P : Program), (setObj x.1 (.map ms c')).run P w = .ok () { w with heap := w.heap.setIfInBounds x.1 (.map ms c') }) ∧ R π (σ.put i (.map es' c')) { w with heap := w.heap.setIfInBounds x.1 (.map ms c') } ∧
      Go π σ w π (σ.put i (.map es' c')) { w with heap := w.heap.setIfInBounds x.1 (.map ms c') } := by
  obtain ⟨x', hx', hb⟩ := h.blk i _ hi
  rw [hx] at hx'; cases hx'
  obtain ⟨ms0, h1, h2⟩ := hb
  have hlt := own_lt h ⟨i, _, x, hi, hx, rfl⟩
  have hother : ∀ b', b' ≠ x.1 → (w.heap.setIfInBounds x.1 (.map ms c'))[b']? = w.heap[b']? := fun b' hne => by
    rw [Array.getElem?_setIfInBounds, if_neg (Ne.symm hne)]
  refine ⟨fun P => by simp only [setObj, Sem.run, h1], ⟨fun j bj hj => ?_, fun j k bj bk y z hj hk hy hz hne => ?_, h.lt⟩, ⟨fun _ _ => rfl, Nat.le_refl _, by simp, fun b hb hn => hother b (fun e => hn ⟨i, _, x, hi, hx, e.symm⟩), fun b hb ho => ?_, ⟨rfl, rfl, rfl⟩⟩⟩
  · rw [St.get_put] at hj
    split at hj
    · rename_i e; subst e; cases hj
      exact ⟨x, hx, ms, by simp [hlt], hr⟩
    · rename_i e
      obtain ⟨y, hy, hbj⟩ := h.blk j bj hj
      exact ⟨y, hy, hbj.congr (hother _ (h.inj j i bj _ y x hj hi hy hx e))⟩
  · rw [St.get_put] at hj hk
    have hj' : ∃ z, σ.get j = some z := by
      split at hj
      · rename_i e; subst e; exact ⟨_, hi⟩
      · exact ⟨_, hj⟩
    have hk' : ∃ z, σ.get k = some z := by
      split at hk
      · rename_i e; subst e; exact ⟨_, hi⟩
      · exact ⟨_, hk⟩
    obtain ⟨_, hj'⟩ := hj'
    obtain ⟨_, hk'⟩ := hk'
    exact h.inj j k _ _ y z hj' hk' hy hz hne
  · obtain ⟨j, bj, y, hj, hy, rfl⟩ := ho
    rw [St.get_put] at hj
    split at hj
    · rename_i e'; subst e'; exact ⟨_, _, _, hi, hy, rfl⟩
    · exact ⟨_, _, _, hj, hy, rfl⟩

theorem more_alloc (w : World) (o : Obj) : More w (w.alloc o) := ⟨by simp, fun b hb => by show (w.heap.push o)[b]? = _; rw [Array.getElem?_push, if_neg (Nat.ne_of_lt hb)], ⟨rfl, rfl, rfl⟩⟩
theorem heap_alloc (w : World) (o : Obj) : (w.alloc o).heap[w.heap.size]? = some o := by show (w.heap.push o)[w.heap.size]? = _; rw [Array.getElem?_push, if_pos rfl]

/-- a new row of known cells -/
theorem newOk_row {π : Pl} {w : World} {l : List CV} {vs : List Value} (h : RL π l vs) (e : TypeId) (rest : List Value) {ex : Bool} (he : ex = true → rest = []) {f : Nat → AV} {v : Value}
    (hv : ∀ i, π i = none → RA (π.upd i (w.heap.size, 0, vs.length + rest.length)) (f i) v) :
    NewOk π w (w.alloc (.cells (vs ++ rest).toArray e)) (w.heap.size, 0, vs.length + rest.length) (.cells l e ex) f v where
  at_ := rfl
  more := more_alloc _ _
  blk i hi := by
    have hl := h.length
    refine ⟨_, _, heap_alloc _ _, by simp, by simp; omega, fun hx => ?_, fun j _ => by simp, vs, h.mono (Pl.le_upd hi _), fun j v hj => ?_⟩
    · rw [he hx]; simp; omega
    · simp only [Nat.zero_add, List.getElem?_toArray]
      rw [List.getElem?_append_left]
      · exact hj
      · rcases Nat.lt_or_ge j vs.length with h | h
        · exact h
        · rw [List.getElem?_eq_none h] at hj; cases hj
  val := hv

/-! What an operation yields. -/

def Yields (P : Program) (π : Pl) (σ : St) (w : World) (s : Sem Value) : Out → Prop
  | .no => True
  | .val v => ∃ x, s.run P w = .ok x w ∧ RA π v x
  | .new b f => ∃ x w1 pl, s.run P w = .ok x w1 ∧ NewOk π w w1 pl b f x
  | .st v σ' => ∃ x w1 π', s.run P w = .ok x w1 ∧ R π' σ' w1 ∧ RA π' v x ∧ Go π σ w π' σ' w1

def Conts (o : Oper) (π : Pl) (σ : St) (w : World) (a : Act) (next : Act → World → Prop) : Out → Prop
  | .no => False
  | .val v => ∀ x, RA π v x → next (a.put o.dst x) w
  | .new b f => ∀ x w1 pl, NewOk π w w1 pl b f x → next (a.put o.dst x) w1
  | .st v σ' => ∀ x w1 π', R π' σ' w1 → RA π' v x → Go π σ w π' σ' w1 → next (a.put o.dst x) w1

theorem wp_value {P : Program} {o : Oper} {π : Pl} {σ : St} {w : World} {a : Act} {next : Act → World → Prop} {Q : Exit → Act → World → Prop} {s : Sem Value} {out : Out}
    (he : execOp a.eval o = (do pure (.value (← s)))) (hy : Yields P π σ w s out) (hc : Conts o π σ w a next out) : o.wp P a w next Q := by
  unfold Oper.wp
  rw [he]
  cases out with
  | no => exact hc.elim
  | val v => obtain ⟨x, hr, hx⟩ := hy; simp [hr, Oper.upon]; exact hc x hx
  | new b f => obtain ⟨x, w1, pl, hr, hx⟩ := hy; simp [hr, Oper.upon]; exact hc x w1 pl hx
  | st v σ' => obtain ⟨x, w1, π', hr, h1, h2, h3⟩ := hy; simp [hr, Oper.upon]; exact hc x w1 π' h1 h2 h3

theorem wp_pure {P : Program} {o : Oper} {π : Pl} {σ : St} {w : World} {a : Act} {next : Act → World → Prop} {Q : Exit → Act → World → Prop} {x : Value} {v : AV}
    (he : execOp a.eval o = pure (.value x)) (hx : RA π v x) (hc : Conts o π σ w a next (.val v)) : o.wp P a w next Q := by
  unfold Oper.wp
  rw [he]
  exact hc x hx

theorem RA_undef (π : Pl) : RA π (.tup []) undef := by simp [RA, undef, RT]

/-- for what yields nothing -/
def YieldsU (P : Program) (π : Pl) (σ : St) (w : World) (s : Sem Unit) : Out → Prop
  | .no => True
  | .st v σ' => v = .tup [] ∧ ∃ w1 π', s.run P w = .ok () w1 ∧ R π' σ' w1 ∧ Go π σ w π' σ' w1
  | _ => False
theorem wp_unit {P : Program} {o : Oper} {π : Pl} {σ : St} {w : World} {a : Act} {next : Act → World → Prop} {Q : Exit → Act → World → Prop} {s : Sem Unit} {out : Out}
    (he : execOp a.eval o = (do s; pure .skip)) (hy : YieldsU P π σ w s out) (hc : Conts o π σ w a next out) : o.wp P a w next Q := by
  unfold Oper.wp
  rw [he]
  cases out with
  | no => exact hc.elim
  | val v => exact hy.elim
  | new b f => exact hy.elim
  | st v σ' =>
    obtain ⟨rfl, w1, π', hr, h1, h3⟩ := hy
    simp [hr, Oper.upon]
    exact hc undef w1 π' h1 (RA_undef π') h3
end Go.Run
