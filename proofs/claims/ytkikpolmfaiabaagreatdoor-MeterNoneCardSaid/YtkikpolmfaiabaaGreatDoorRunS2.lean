import Derived.Test.YtkikpolmfaiabaaGreatDoorRunS1
import Derived.Laws.IdiomCopy
import Derived.Deep.MidRow
import Derived.Deep.Upon
namespace Go.Run

theorem RC.oneCell {π : Pl} {c : CV} {v : Value} (h : RC π c v) : v.oneCell' = true := by
  cases c with
  | ptr p => cases p with
    | none => cases h; rfl
    | some p => obtain ⟨_, _, _, _, rfl⟩ := h; rfl
  | slice p l c => cases p with
    | none => obtain ⟨_, rfl⟩ := h; rfl
    | some p => obtain ⟨_, _, _, _, _, _, rfl, _⟩ := h; rfl
  | map p => cases p with
    | none => cases h; rfl
    | some p => obtain ⟨_, _, rfl⟩ := h; rfl
  | func f caps => obtain ⟨_, rfl, _⟩ := h; rfl
  | _ => cases h; rfl

theorem lenN_eq {α : Type} : ∀ (l : List α), lenN l = l.length
  | [] => rfl
  | _ :: r => by simp [lenN, lenN_eq r]
theorem dropN_eq {α : Type} : ∀ (n : Nat) (l : List α), dropN n l = l.drop n
  | 0, _ => rfl
  | _ + 1, [] => rfl
  | n + 1, _ :: r => by simp [dropN, dropN_eq n r]
theorem nth_eq {α : Type} : ∀ (l : List α) (n : Nat), nth l n = l[n]?
  | [], _ => by simp [nth]
  | _ :: _, 0 => rfl
  | _ :: r, n + 1 => by simp [nth, nth_eq r n]
theorem takeN_eq {α : Type} : ∀ (n : Nat) (l m : List α), takeN n l = some m → m = l.take n ∧ n ≤ l.length
  | 0, _, _, h => by simp [takeN] at h; subst h; simp
  | n + 1, [], _, h => by simp [takeN] at h
  | n + 1, a :: r, m, h => by
    simp only [takeN] at h
    split at h
    · rename_i l hl
      cases h
      obtain ⟨rfl, h2⟩ := takeN_eq n r l hl
      simp; exact h2
    · cases h
theorem over_eq {α : Type} : ∀ (n : Nat) (v l m : List α), over n v l = some m → m = l.take n ++ v ++ l.drop (n + v.length) ∧ n + v.length ≤ l.length
  | 0, [], l, m, h => by simp [over] at h; subst h; simp
  | 0, _ :: _, [], _, h => by simp [over] at h
  | 0, x :: v, a :: l, m, h => by
    simp only [over] at h
    split at h
    · rename_i r hr
      cases h
      obtain ⟨rfl, h2⟩ := over_eq 0 v l r hr
      simp at h2 ⊢; omega
    · cases h
  | n + 1, v, a :: l, m, h => by
    simp only [over] at h
    split at h
    · rename_i r hr
      cases h
      obtain ⟨rfl, h2⟩ := over_eq n v l r hr
      simp; refine ⟨by rw [show n + 1 + v.length = (n + v.length) + 1 by omega]; rfl, by omega⟩
    · cases h
  | n + 1, _, [], _, h => by simp [over] at h

theorem RL.length {π : Pl} : ∀ {l : List CV} {vs : List Value}, RL π l vs → l.length = vs.length
  | [], [], _ => rfl
  | _ :: _, _ :: _, h => by simp [RL.length h.2]
  | [], _ :: _, h => h.elim
  | _ :: _, [], h => h.elim
theorem RL.append {π : Pl} : ∀ {l m : List CV} {vs ws : List Value}, RL π l vs → RL π m ws → RL π (l ++ m) (vs ++ ws)
  | [], _, [], _, _, h => h
  | _ :: _, _, _ :: _, _, h, h' => ⟨h.1, RL.append h.2 h'⟩
  | [], _, _ :: _, _, h, _ => h.elim
  | _ :: _, _, [], _, h, _ => h.elim
theorem RL.take {π : Pl} : ∀ (n : Nat) {l : List CV} {vs : List Value}, RL π l vs → RL π (l.take n) (vs.take n)
  | 0, _, _, _ => by simp [RL]
  | _ + 1, [], [], _ => by simp [RL]
  | n + 1, _ :: _, _ :: _, h => by simp only [List.take_succ_cons]; exact ⟨h.1, RL.take n h.2⟩
  | _ + 1, [], _ :: _, h => h.elim
  | _ + 1, _ :: _, [], h => h.elim
theorem RL.drop {π : Pl} : ∀ (n : Nat) {l : List CV} {vs : List Value}, RL π l vs → RL π (l.drop n) (vs.drop n)
  | 0, _, _, h => by simpa using h
  | _ + 1, [], [], _ => by simp [RL]
  | n + 1, _ :: _, _ :: _, h => by simp only [List.drop_succ_cons]; exact RL.drop n h.2
  | _ + 1, [], _ :: _, h => h.elim
  | _ + 1, _ :: _, [], h => h.elim
theorem RL.get {π : Pl} : ∀ {l : List CV} {vs : List Value} {n : Nat} {c : CV}, RL π l vs → l[n]? = some c → ∃ v, vs[n]? = some v ∧ RC π c v
  | _ :: _, v :: _, 0, _, h, e => by simp at e; subst e; exact ⟨v, by simp, h.1⟩
  | _ :: _, _ :: _, n + 1, _, h, e => by simp at e ⊢; exact RL.get h.2 e
  | [], _, _, _, _, e => by simp at e
  | _ :: _, [], _, _, h, _ => h.elim
theorem RL.oneCell {π : Pl} : ∀ {l : List CV} {vs : List Value}, RL π l vs → ∀ v ∈ vs, v.oneCell' = true
  | [], [], _, v, h => by cases h
  | _ :: _, u :: _, h, v, hv => by
    cases hv with
    | head => exact h.1.oneCell
    | tail _ hv => exact RL.oneCell h.2 v hv
  | [], _ :: _, h, _, _ => h.elim
  | _ :: _, [], h, _, _ => h.elim

theorem heap_setCell (w : World) (b o : Nat) (v : Value) (cs : Array Value) (e : TypeId) (frz : Nat × Nat) (h : w.heap[b]? = some (.cells cs e frz)) :
    (w.setCell ⟨b, o, none⟩ v).heap[b]? = some (.cells (cs.setIfInBounds o v) e frz) := by
  simp only [World.setCell, Array.getElem?_modify, h, if_true]
  rfl

theorem heap_setCells (b : Nat) (e : TypeId) (frz : Nat × Nat) : ∀ (vs : List Value) (o : Nat) (w : World) (cs : Array Value), w.heap[b]? = some (.cells cs e frz) → o + vs.length ≤ cs.size →
    ∃ cs', (w.setCells b o vs).heap[b]? = some (.cells cs' e frz) ∧ cs'.size = cs.size ∧ (∀ j v, vs[j]? = some v → cs'[o + j]? = some v) ∧ ∀ j, (j < o ∨ o + vs.length ≤ j) → cs'[j]? = cs[j]?
  | [], o, w, cs, h, _ => ⟨cs, h, rfl, fun j v hv => by simp at hv, fun _ _ => rfl⟩
  | v :: r, o, w, cs, h, hl => by
    simp at hl
    obtain ⟨cs', h1, h2, h3, h4⟩ := heap_setCells b e frz r (o + 1) (w.setCell ⟨b, o, none⟩ v) _ (heap_setCell w b o v cs e frz h) (by simp; omega)
    refine ⟨cs', h1, by simpa using h2, fun j u hj => ?_, fun j hj => ?_⟩
    · cases j with
      | zero =>
        simp at hj; subst hj
        rw [Nat.add_zero, h4 o (.inl (by omega))]
        simp [Array.getElem?_setIfInBounds]; omega
      | succ j => simp at hj; have := h3 j u hj; rwa [show o + (j + 1) = o + 1 + j by omega]
    · simp at hj
      rw [h4 j (by omega), Array.getElem?_setIfInBounds]
      split
      · omega
      · rfl

theorem size_setCells (b : Nat) : ∀ (vs : List Value) (o : Nat) (w : World), (w.setCells b o vs).heap.size = w.heap.size
  | [], _, _ => rfl
  | v :: r, o, w => by rw [World.setCells, size_setCells b r]; simp

theorem cell_of {w : World} {b o : Nat} {cs : Array Value} {e : TypeId} {frz : Nat × Nat} (h : w.heap[b]? = some (.cells cs e frz)) : w.cell? ⟨b, o, none⟩ = cs[o]? := by
  simp [World.cell?, h]
theorem frozen_of {w : World} {b o : Nat} {cs : Array Value} {e : TypeId} {frz : Nat × Nat} (h : w.heap[b]? = some (.cells cs e frz)) (hf : ¬ (frz.1 ≤ o ∧ o < frz.2)) : w.frozen? ⟨b, o, none⟩ = false := by
  simp only [World.frozen?, h]
  simp; omega

/-- cells that the abstract memory knows -/
theorem RB.read {π : Pl} {w : World} {x : Nat × Nat × Nat} {l : List CV} {e : TypeId} {ex : Bool} (h : RB π w x (.cells l e ex)) {o n : Nat} {m : List CV} (hm : takeN n (dropN o l) = some m) :
    ∃ ms, RL π m ms ∧ ms.length = n ∧ ∀ j v, ms[j]? = some v → w.cell? ⟨x.1, x.2.1 + o + j, none⟩ = some v := by
  obtain ⟨cs, frz, h1, h2, h3, h4, h5, vs, h6, h7⟩ := h
  rw [dropN_eq] at hm
  obtain ⟨rfl, hn⟩ := takeN_eq _ _ _ hm
  refine ⟨(vs.drop o).take n, (h6.drop o).take n, ?_, fun j v hj => ?_⟩
  · have := h6.length; simp at hn ⊢; omega
  · rw [cell_of h1]
    rw [List.getElem?_take] at hj
    split at hj
    · rw [List.getElem?_drop] at hj; rw [Nat.add_assoc]; exact h7 _ _ hj
    · cases hj

theorem RB.one {π : Pl} {w : World} {x : Nat × Nat × Nat} {l : List CV} {e : TypeId} {ex : Bool} (h : RB π w x (.cells l e ex)) {o : Nat} {c : CV} (hc : nth l o = some c) :
    ∃ v, RC π c v ∧ w.cell? ⟨x.1, x.2.1 + o, none⟩ = some v := by
  obtain ⟨cs, frz, h1, h2, h3, h4, h5, vs, h6, h7⟩ := h
  rw [nth_eq] at hc
  obtain ⟨v, hv, hr⟩ := h6.get hc
  exact ⟨v, hr, by rw [cell_of h1]; exact h7 _ _ hv⟩

theorem same_setCells (b : Nat) : ∀ (vs : List Value) (o : Nat) (w : World), Same w (w.setCells b o vs)
  | [], _, w => Same.refl w
  | v :: vs, o, w => (show Same w (w.setCell ⟨b, o, none⟩ v) from ⟨rfl, rfl, rfl⟩).trans (same_setCells b vs (o + 1) _)

/-- a row of cells is written -/
theorem R.write {π : Pl} {σ : St} {w : World} (h : R π σ w) {i : Nat} {l l' cs : List CV} {e : TypeId} {ex : Bool} (hi : σ.get i = some (.cells l e ex)) {o : Nat} (ho : over o cs l = some l') {vs : List Value} (hv : RL π cs vs)
    {b base sz : Nat} (hx : π i = some (b, base, sz)) :
    (∀ (P : Program), (storeCells ⟨b, base + o, none⟩ vs).run P w = .ok () (w.setCells b (base + o) vs)) ∧ R π (σ.put i (.cells l' e ex)) (w.setCells b (base + o) vs) ∧
      Go π σ w π (σ.put i (.cells l' e ex)) (w.setCells b (base + o) vs) := by
  obtain ⟨x', hx', hb⟩ := h.blk i _ hi
  rw [hx] at hx'; cases hx'
  obtain ⟨cur, frz, h1, h2, h3, h4, h5, us, h6, h7⟩ := hb
  obtain ⟨rfl, hl⟩ := over_eq _ _ _ _ ho
  have hlen := hv.length
  have hul := h6.length
  simp only at h1 h2 h3 h4 h5 h7
  have hblt : b < w.heap.size := by
    rcases Nat.lt_or_ge b w.heap.size with h | h
    · exact h
    · simp [Array.getElem?_eq_none h] at h1
  obtain ⟨cs', g1, g2, g3, g4⟩ := heap_setCells b e frz vs (base + o) w cur h1 (by omega)
  have hother : ∀ b', b' < w.heap.size → b' ≠ b → (w.setCells b (base + o) vs).heap[b']? = w.heap[b']? := fun b' hb' hne => World.heap_setCells_other w b (base + o) vs hb' hne
  refine ⟨fun P => ?_, ⟨fun j bj hj => ?_, fun j k bj bk x y hj hk hxj hyk hne => ?_, h.lt⟩, ⟨fun _ _ => rfl, Nat.le_refl _, by rw [size_setCells]; exact Nat.le_refl _, fun b' hb' hn => hother b' hb' ?_, fun b' hb' ho => ?_, same_setCells _ _ _ _⟩⟩
  · have := run_storeCells_cells (P := P) b (base + o) vs 0 w (fun j hj => ?_) (fun j hj => ?_) hv.oneCell
    · simpa using this
    · rw [cell_of h1]; simp; omega
    · exact frozen_of h1 (h5 _ (by omega))
  · rw [St.get_put] at hj
    split at hj
    · rename_i hji
      subst hji
      cases hj
      refine ⟨_, hx, cs', frz, g1, by rw [g2]; exact h2, ?_, fun he => ?_, fun j hj => ?_, us.take o ++ vs ++ us.drop (o + vs.length), ?_, fun j v hj => ?_⟩
      · simp; omega
      · have := h4 he; simp; omega
      · exact h5 j hj
      · rw [← hlen]; exact ((h6.take o).append hv).append (h6.drop _)
      · simp only
        by_cases c1 : j < o
        · rw [List.append_assoc, List.getElem?_append_left (by simp; omega), List.getElem?_take, if_pos c1] at hj
          rw [g4 _ (.inl (by omega))]; exact h7 _ _ hj
        · by_cases c2 : j < o + vs.length
          · rw [List.append_assoc, List.getElem?_append_right (by simp; omega), List.getElem?_append_left (by simp; omega)] at hj
            have hlo : (us.take o).length = o := by simp; omega
            rw [hlo] at hj
            have := g3 _ _ hj
            rwa [show base + o + (j - o) = base + j by omega] at this
          · have hlo : (us.take o ++ vs).length = o + vs.length := by simp; omega
            rw [List.getElem?_append_right (by omega), hlo, List.getElem?_drop] at hj
            rw [show o + vs.length + (j - (o + vs.length)) = j by omega] at hj
            rw [g4 _ (.inr (by omega))]; exact h7 _ _ hj
    · rename_i hji
      obtain ⟨y, hy, hb⟩ := h.blk j bj hj
      refine ⟨y, hy, hb.congr (hother _ (own_lt h ⟨j, bj, y, hj, hy, rfl⟩) ?_)⟩
      exact h.inj j i bj _ y _ hj hi hy hx hji
  · rw [St.get_put] at hj hk
    have hj' : ∃ z, σ.get j = some z := by
      split at hj
      · rename_i e; subst e; exact ⟨_, hi⟩
      · exact ⟨_, hj⟩
    have hk' : ∃ z, σ.get k = some z := by
      split at hk
      · rename_i e; subst e; exact ⟨_, hi⟩
      · exact ⟨_, hk⟩
    obtain ⟨_, hj'⟩ := hj'
    obtain ⟨_, hk'⟩ := hk'
    exact h.inj j k _ _ x y hj' hk' hxj hyk hne
  · intro e; subst e; exact hn ⟨i, _, _, hi, hx, rfl⟩
  · obtain ⟨j, bj, x, hj, hxj, rfl⟩ := ho
    rw [St.get_put] at hj
    split at hj
    · rename_i e'; subst e'; exact ⟨_, _, _, hi, hxj, rfl⟩
    · exact ⟨_, _, _, hj, hxj, rfl⟩
end Go.Run
