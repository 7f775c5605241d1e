import Derived.Test.YtkikpolmfaiabaaGreatDoorRunB
namespace Go.Run

theorem Tr.get_sing {α : Type} (d a : α) : ∀ (f n j : Nat), n < f → (Tr.sing d a f n).get d j = if j = n then a else d := by
  intro f
  induction f with
  | zero => intro n j h; omega
  | succ f ih =>
    intro n j h
    have hs : Tr.sing d a (f + 1) n = (bif Nat.beq n 0 then .node a .leaf .leaf else bif Nat.beq (Nat.mod n 2) 1 then .node d (Tr.sing d a f (Nat.div n 2)) .leaf else .node d .leaf (Tr.sing d a f (Nat.sub (Nat.div n 2) 1))) := rfl
    have hn : ∀ v l r, (Tr.node v l r : Tr α).get d j = (bif Nat.beq j 0 then v else bif Nat.beq (Nat.mod j 2) 1 then l.get d (Nat.div j 2) else r.get d (Nat.sub (Nat.div j 2) 1)) := fun _ _ _ => rfl
    have hl : ∀ k, (Tr.leaf : Tr α).get d k = d := fun _ => rfl
    rw [hs]
    cases h0 : Nat.beq n 0
    · have hn0 : n ≠ 0 := fun e => by subst e; simp at h0
      simp only [cond_false]
      cases h1 : Nat.beq (Nat.mod n 2) 1
      · have hm : n % 2 ≠ 1 := fun e => by have : Nat.mod n 2 = 1 := e; rw [this] at h1; simp at h1
        simp only [cond_false, hn]
        cases j0 : Nat.beq j 0
        · have hj0 : j ≠ 0 := fun e => by subst e; simp at j0
          simp only [cond_false]
          cases j1 : Nat.beq (Nat.mod j 2) 1
          · have hjm : j % 2 ≠ 1 := fun e => by have : Nat.mod j 2 = 1 := e; rw [this] at j1; simp at j1
            simp only [cond_false]
            have hlt : Nat.sub (Nat.div n 2) 1 < f := by show n / 2 - 1 < f; omega
            rw [ih _ _ hlt]
            have : (Nat.sub (Nat.div j 2) 1 = Nat.sub (Nat.div n 2) 1) ↔ j = n := by show j / 2 - 1 = n / 2 - 1 ↔ _; omega
            simp only [this]
          · have hjm : j % 2 = 1 := Nat.eq_of_beq_eq_true j1
            simp only [cond_true, hl]
            rw [if_neg]; omega
        · have hj0 : j = 0 := Nat.eq_of_beq_eq_true j0
          simp only [cond_true]
          rw [if_neg]; omega
      · have hm : n % 2 = 1 := Nat.eq_of_beq_eq_true h1
        simp only [cond_true, hn]
        cases j0 : Nat.beq j 0
        · have hj0 : j ≠ 0 := fun e => by subst e; simp at j0
          simp only [cond_false]
          cases j1 : Nat.beq (Nat.mod j 2) 1
          · have hjm : j % 2 ≠ 1 := fun e => by have : Nat.mod j 2 = 1 := e; rw [this] at j1; simp at j1
            simp only [cond_false, hl]
            rw [if_neg]; omega
          · have hjm : j % 2 = 1 := Nat.eq_of_beq_eq_true j1
            simp only [cond_true]
            have hlt : Nat.div n 2 < f := by show n / 2 < f; omega
            rw [ih _ _ hlt]
            have : (Nat.div j 2 = Nat.div n 2) ↔ j = n := by show j / 2 = n / 2 ↔ _; omega
            simp only [this]
        · have hj0 : j = 0 := Nat.eq_of_beq_eq_true j0
          simp only [cond_true]
          rw [if_neg]; omega
    · have hn0 : n = 0 := Nat.eq_of_beq_eq_true h0
      subst hn0
      simp only [cond_true, hn]
      cases j0 : Nat.beq j 0
      · have hj0 : j ≠ 0 := fun e => by subst e; simp at j0
        simp only [cond_false, hl, if_neg hj0]
        cases Nat.beq (Nat.mod j 2) 1 <;> rfl
      · have hj0 : j = 0 := Nat.eq_of_beq_eq_true j0
        simp [hj0]

theorem Tr.get_set {α : Type} (d a : α) (t : Tr α) : ∀ (n j : Nat), (t.set d a n).get d j = if j = n then a else t.get d j := by
  induction t with
  | leaf => intro n j; exact Tr.get_sing d a (n + 1) n j (by omega)
  | node v l r ihl ihr =>
    intro n j
    have hs : (Tr.node v l r).set d a n = (bif Nat.beq n 0 then .node a l r else bif Nat.beq (Nat.mod n 2) 1 then .node v (l.set d a (Nat.div n 2)) r else .node v l (r.set d a (Nat.sub (Nat.div n 2) 1))) := rfl
    have hn : ∀ v l r, (Tr.node v l r : Tr α).get d j = (bif Nat.beq j 0 then v else bif Nat.beq (Nat.mod j 2) 1 then l.get d (Nat.div j 2) else r.get d (Nat.sub (Nat.div j 2) 1)) := fun _ _ _ => rfl
    rw [hs, hn v l r]
    cases h0 : Nat.beq n 0
    · have hn0 : n ≠ 0 := fun e => by subst e; simp at h0
      simp only [cond_false]
      cases h1 : Nat.beq (Nat.mod n 2) 1
      · have hm : n % 2 ≠ 1 := fun e => by have : Nat.mod n 2 = 1 := e; rw [this] at h1; simp at h1
        simp only [cond_false, hn]
        cases j0 : Nat.beq j 0
        · have hj0 : j ≠ 0 := fun e => by subst e; simp at j0
          simp only [cond_false]
          cases j1 : Nat.beq (Nat.mod j 2) 1
          · have hjm : j % 2 ≠ 1 := fun e => by have : Nat.mod j 2 = 1 := e; rw [this] at j1; simp at j1
            simp only [cond_false]
            rw [ihr]
            have : (Nat.sub (Nat.div j 2) 1 = Nat.sub (Nat.div n 2) 1) ↔ j = n := by show j / 2 - 1 = n / 2 - 1 ↔ _; omega
            simp only [this]
          · have hjm : j % 2 = 1 := Nat.eq_of_beq_eq_true j1
            simp only [cond_true]
            rw [if_neg]; omega
        · have hj0 : j = 0 := Nat.eq_of_beq_eq_true j0
          simp only [cond_true]
          rw [if_neg]; omega
      · have hm : n % 2 = 1 := Nat.eq_of_beq_eq_true h1
        simp only [cond_true, hn]
        cases j0 : Nat.beq j 0
        · have hj0 : j ≠ 0 := fun e => by subst e; simp at j0
          simp only [cond_false]
          cases j1 : Nat.beq (Nat.mod j 2) 1
          · have hjm : j % 2 ≠ 1 := fun e => by have : Nat.mod j 2 = 1 := e; rw [this] at j1; simp at j1
            simp only [cond_false]
            rw [if_neg]; omega
          · have hjm : j % 2 = 1 := Nat.eq_of_beq_eq_true j1
            simp only [cond_true]
            rw [ihl]
            have : (Nat.div j 2 = Nat.div n 2) ↔ j = n := by show j / 2 = n / 2 ↔ _; omega
            simp only [this]
        · have hj0 : j = 0 := Nat.eq_of_beq_eq_true j0
          simp only [cond_true]
          rw [if_neg]; omega
    · have hn0 : n = 0 := Nat.eq_of_beq_eq_true h0
      subst hn0
      simp only [cond_true, hn]
      cases j0 : Nat.beq j 0
      · have hj0 : j ≠ 0 := fun e => by subst e; simp at j0
        simp only [cond_false, if_neg hj0]
      · have hj0 : j = 0 := Nat.eq_of_beq_eq_true j0
        simp [hj0]

theorem St.get_put (σ : St) (i j : Nat) (b : Blk) : (σ.put i b).get j = if j = i then some b else σ.get j := Tr.get_set none (some b) σ.m i j
theorem St.get_kill (σ : St) (i j : Nat) : (σ.kill i).get j = if j = i then none else σ.get j := Tr.get_set none none σ.m i j
theorem St.get_push (σ : St) (j : Nat) (b : Blk) : (σ.push b).get j = if j = σ.next then some b else σ.get j := Tr.get_set none (some b) σ.m σ.next j

theorem forceN_eq {α : Type} (n : Nat) (k : Nat → α) : forceN n k = k n := by cases n <;> rfl
theorem forceI_eq {α : Type} (n : Int) (k : Int → α) : forceI n k = k n := by
  cases n with
  | ofNat m => exact forceN_eq m fun m => k (.ofNat m)
  | negSucc m => exact forceN_eq m fun m => k (.negSucc m)
theorem intV_eq (k : IntKind) (n : Int) : intV k n = Out.val (AV.one (CV.int k n)) := forceI_eq n fun n => Out.val (AV.one (CV.int k n))

/-! What an abstract value stands for. -/

/-- where a block lies: the block, the place of its first cell, how many cells the block has -/
abbrev Pl := Nat → Option (Nat × Nat × Nat)

def RP (π : Pl) (p : Nat × Nat) (v : Value) : Prop := ∃ b base sz, π p.1 = some (b, base, sz) ∧ v = .pointer (some ⟨b, base + p.2, none⟩)
def RPs (π : Pl) : List (Nat × Nat) → List Value → Prop
  | [], [] => True
  | p :: l, v :: r => RP π p v ∧ RPs π l r
  | _, _ => False

def CapOk (c : Cap) (o l b base sz a cp : Nat) : Prop := match c with
  | .ex c => cp = c ∧ (a = base + o ∨ c = 0)
  | .to z => 0 < z ∧ base + o ≤ sz ∧ cp * z = sz - (base + o) ∧ (a = base + o ∨ cp = 0)

def RC (π : Pl) : CV → Value → Prop
  | .bool b, v => v = .bool b
  | .int k n, v => v = .int k n
  | .str s, v => v = .string s
  | .ptr none, v => v = .pointer none
  | .ptr (some p), v => RP π p v
  | .slice none l _, v => l = 0 ∧ v = .slice none 0 0
  | .slice (some p) l c, v => ∃ b base sz a cp, π p.1 = some (b, base, sz) ∧ v = .slice (some ⟨b, a, none⟩) l cp ∧ l ≤ cp ∧ CapOk c p.2 l b base sz a cp
  | .map none, v => v = .map none
  | .map (some i), v => ∃ x, π i = some x ∧ v = .map (some x.1)
  | .func f caps, v => ∃ vs : Array Value, v = .func (.func f) #[] vs ∧ RPs π caps vs.toList
  | .nilFunc, v => v = .nilFunc
  | .nilI, v => v = .nilIface

def RL (π : Pl) : List CV → List Value → Prop
  | [], [] => True
  | c :: l, v :: r => RC π c v ∧ RL π l r
  | _, _ => False

mutual
def RA (π : Pl) : AV → Value → Prop
  | .bad, _ => True
  | .one c, v => RC π c v
  | .agg l, v => ∃ a, v = .agg a ∧ RL π l a.toList
  | .tup l, v => ∃ a, v = .tuple a ∧ RT π l a.toList
def RT (π : Pl) : List AV → List Value → Prop
  | [], [] => True
  | c :: l, v :: r => RA π c v ∧ RT π l r
  | _ :: _, [] => False
  | [], _ :: _ => False
end

/-- a greater placement -/
def Pl.le (π π' : Pl) : Prop := ∀ i x, π i = some x → π' i = some x

theorem RP.mono {π π' : Pl} (h : π.le π') {p v} : RP π p v → RP π' p v := fun ⟨b, base, sz, e, hv⟩ => ⟨b, base, sz, h _ _ e, hv⟩
theorem RPs.mono {π π' : Pl} (h : π.le π') : ∀ {l v}, RPs π l v → RPs π' l v
  | [], [], _ => trivial
  | _ :: _, _ :: _, ⟨a, b⟩ => ⟨a.mono h, RPs.mono h b⟩
theorem RC.mono {π π' : Pl} (h : π.le π') {c v} (hc : RC π c v) : RC π' c v := by
  cases c with
  | ptr p => cases p with
    | none => exact hc
    | some p => exact RP.mono h hc
  | slice p l c => cases p with
    | none => exact hc
    | some p => obtain ⟨b, base, sz, a, cp, e, r⟩ := hc; exact ⟨b, base, sz, a, cp, h _ _ e, r⟩
  | map p => cases p with
    | none => exact hc
    | some p => obtain ⟨x, e, r⟩ := hc; exact ⟨x, h _ _ e, r⟩
  | func f caps => obtain ⟨vs, e, r⟩ := hc; exact ⟨vs, e, r.mono h⟩
  | _ => exact hc
theorem RL.mono {π π' : Pl} (h : π.le π') : ∀ {l v}, RL π l v → RL π' l v
  | [], [], _ => trivial
  | _ :: _, _ :: _, ⟨a, b⟩ => ⟨a.mono h, RL.mono h b⟩
mutual
theorem RA.mono {π π' : Pl} (h : π.le π') : ∀ {c v}, RA π c v → RA π' c v
  | .bad, _, _ => by simp [RA]
  | .one c, v, hc => by simp only [RA] at hc ⊢; exact RC.mono h hc
  | .agg l, v, hc => by simp only [RA] at hc ⊢; obtain ⟨a, e, r⟩ := hc; exact ⟨a, e, r.mono h⟩
  | .tup l, v, hc => by simp only [RA] at hc ⊢; obtain ⟨a, e, r⟩ := hc; exact ⟨a, e, RT.mono h r⟩
theorem RT.mono {π π' : Pl} (h : π.le π') : ∀ {l v}, RT π l v → RT π' l v
  | [], [], _ => by simp [RT]
  | _ :: _, _ :: _, hc => by simp only [RT] at hc ⊢; exact ⟨RA.mono h hc.1, RT.mono h hc.2⟩
  | _ :: _, [], hc => by simp [RT] at hc
  | [], _ :: _, hc => by simp [RT] at hc
end

/-! What an abstract memory stands for. -/

def RE1 (π : Pl) (e : CV × AV × Nat) (m : MapEntry) : Prop := RC π e.1 m.key ∧ RA π e.2.1 m.val ∧ m.born = e.2.2
def REs (π : Pl) : List (CV × AV × Nat) → List MapEntry → Prop
  | [], [] => True
  | e :: l, m :: r => RE1 π e m ∧ REs π l r
  | _, _ => False
theorem REs.mono {π π' : Pl} (h : π.le π') : ∀ {l v}, REs π l v → REs π' l v
  | [], [], _ => trivial
  | _ :: _, _ :: _, ⟨⟨a, b, c⟩, r⟩ => ⟨⟨a.mono h, b.mono h, c⟩, REs.mono h r⟩

def RB (π : Pl) (w : World) (x : Nat × Nat × Nat) : Blk → Prop
  | .cells l e exact => ∃ cs frz, w.heap[x.1]? = some (.cells cs e frz) ∧ cs.size = x.2.2 ∧ x.2.1 + l.length ≤ x.2.2 ∧ (exact = true → x.2.1 = 0 ∧ l.length = x.2.2) ∧
      (∀ j, j < x.2.2 → ¬ (frz.1 ≤ j ∧ j < frz.2)) ∧ ∃ vs, RL π l vs ∧ ∀ j v, vs[j]? = some v → cs[x.2.1 + j]? = some v
  | .map es clock => ∃ ms : Array MapEntry, w.heap[x.1]? = some (.map ms clock) ∧ REs π es ms.toList

theorem RB.congr {π : Pl} {w w' : World} {x : Nat × Nat × Nat} {b : Blk} (h : w'.heap[x.1]? = w.heap[x.1]?) (hb : RB π w x b) : RB π w' x b := by
  cases b <;> simp only [RB, h] at hb ⊢ <;> exact hb
theorem RB.mono {π π' : Pl} (hp : π.le π') {w : World} {x : Nat × Nat × Nat} {b : Blk} (hb : RB π w x b) : RB π' w x b := by
  cases b with
  | cells l e ex => obtain ⟨cs, frz, h1, h2, h3, h4, h5, vs, h6, h7⟩ := hb; exact ⟨cs, frz, h1, h2, h3, h4, h5, vs, h6.mono hp, h7⟩
  | map es c => obtain ⟨ms, h1, h2⟩ := hb; exact ⟨ms, h1, h2.mono hp⟩

/-- a block that the abstract memory speaks of -/
def own (π : Pl) (σ : St) (b : Nat) : Prop := ∃ i blk x, σ.get i = some blk ∧ π i = some x ∧ x.1 = b

structure R (π : Pl) (σ : St) (w : World) : Prop where
  blk : ∀ i b, σ.get i = some b → ∃ x, π i = some x ∧ RB π w x b
  inj : ∀ i j bi bj x y, σ.get i = some bi → σ.get j = some bj → π i = some x → π j = some y → i ≠ j → x.1 ≠ y.1
  lt : ∀ i x, π i = some x → i < σ.next

/-- nothing but the heap, and what was drawn, differs -/
structure Same (w w' : World) : Prop where
  os : w'.os = w.os
  tape : w'.tape = w.tape
  output : w'.output = w.output
theorem Same.refl (w : World) : Same w w := ⟨rfl, rfl, rfl⟩
theorem Same.trans {w w' w'' : World} (h : Same w w') (h' : Same w' w'') : Same w w'' := ⟨h'.os.trans h.os, h'.tape.trans h.tape, h'.output.trans h.output⟩

/-- from one state to a later one -/
structure Go (π : Pl) (σ : St) (w : World) (π' : Pl) (σ' : St) (w' : World) : Prop where
  ext : ∀ i, i < σ.next → π' i = π i
  mono : σ.next ≤ σ'.next
  grow : w.heap.size ≤ w'.heap.size
  frame : ∀ b, b < w.heap.size → ¬ own π σ b → w'.heap[b]? = w.heap[b]?
  owns : ∀ b, b < w.heap.size → own π' σ' b → own π σ b
  same : Same w w'

theorem R.le {π π' : Pl} {σ σ' : St} {w w' : World} (h : R π σ w) (g : Go π σ w π' σ' w') : π.le π' := fun i x e => by rw [g.ext i (h.lt i x e)]; exact e

theorem Go.refl (π : Pl) (σ : St) (w : World) : Go π σ w π σ w := ⟨fun _ _ => rfl, Nat.le_refl _, Nat.le_refl _, fun _ _ _ => rfl, fun _ _ h => h, Same.refl w⟩
theorem Go.trans {π π' π'' : Pl} {σ σ' σ'' : St} {w w' w'' : World} (g : Go π σ w π' σ' w') (g' : Go π' σ' w' π'' σ'' w'') : Go π σ w π'' σ'' w'' where
  ext i h := by rw [g'.ext i (Nat.lt_of_lt_of_le h g.mono), g.ext i h]
  mono := Nat.le_trans g.mono g'.mono
  grow := Nat.le_trans g.grow g'.grow
  frame b hb hn := by rw [g'.frame b (Nat.lt_of_lt_of_le hb g.grow) (fun h => hn (g.owns b hb h)), g.frame b hb hn]
  owns b hb h := g.owns b hb (g'.owns b (Nat.lt_of_lt_of_le hb g.grow) h)
  same := g.same.trans g'.same

theorem own_lt {π : Pl} {σ : St} {w : World} (h : R π σ w) {b : Nat} (ho : own π σ b) : b < w.heap.size := by
  obtain ⟨i, blk, x, hi, hx, rfl⟩ := ho
  obtain ⟨x', hx', hb⟩ := h.blk i blk hi
  rw [hx] at hx'; cases hx'
  have hlt : ∀ o, w.heap[x.1]? = some o → x.1 < w.heap.size := fun o h => by
    rcases Nat.lt_or_ge x.1 w.heap.size with h' | h'
    · exact h'
    · simp [Array.getElem?_eq_none h'] at h
  cases blk with
  | cells l e ex => obtain ⟨cs, frz, hs, _⟩ := hb; exact hlt _ hs
  | map es c => obtain ⟨ms, hm, _⟩ := hb; exact hlt _ hm
end Go.Run
