import Derived.Test.YtkikpolmfaiabaaGreatDoorRunS25
import Derived.Orders
namespace Go.Run
variable {cx : Cx} {π : Pl} {σ : St} {w : World} {env : Env} {a : Act} {call : CallF}

/-! What an operation looks at. -/

theorem evList_congr {env env' : Env} : ∀ (l : List Operand), (∀ x ∈ l, evA x env = evA x env') → evList env l = evList env' l
  | [], _ => rfl
  | x :: r, h => by
    have h1 := h x (List.mem_cons_self ..)
    have h2 := evList_congr r fun y hy => h y (List.mem_cons_of_mem _ hy)
    simp only [evList, h1, h2]
theorem evParts_congr {env env' : Env} : ∀ (l : List (Nat × Operand)), (∀ x ∈ l.map (·.2), evA x env = evA x env') → evParts env l = evParts env' l
  | [], _ => rfl
  | (i, x) :: r, h => by
    have h1 := h x (List.mem_cons_self ..)
    have h2 := evParts_congr r fun y hy => h y (List.mem_cons_of_mem _ hy)
    simp only [evParts, h1, h2]
theorem boundA_congr {env env' : Env} {v : Option Operand} {d : Nat} (h : ∀ x, v = some x → evA x env = evA x env') : boundA v d env = boundA v d env' := by
  cases v with
  | none => rfl
  | some x => simp only [boundA, h x rfl]

theorem opT_congr {env env' : Env} {o : Op} (h : ∀ x ∈ o.operands.toList, evA x env = evA x env') : opT o cx call env σ = opT o cx call env' σ := by
  cases o <;> simp only [Op.operands] at h <;> simp only [opT]
  case move x => simp only [fMove, h x (by simp)]
  case assign x => simp only [fMove, h x (by simp)]
  case pick c x y => simp only [fPick, h c (by simp), h x (by simp), h y (by simp)]
  case alloc => rfl
  case box e x => simp only [fBox, h x (by simp)]
  case build t ps => simp only [fBuild, evParts_congr ps.toList (env := env) (env' := env') (by simpa using h)]
  case buildSlice t n ps => simp only [fBuildSlice, evParts_congr ps.toList (env := env) (env' := env') (by simpa using h)]
  case load t x => simp only [fLoad, h x (by simp)]
  case store t x v => simp only [fStore, h x (by simp), h v (by simp)]
  case nilCheck x => simp only [fNilCheck, h x (by simp)]
  case binOp op t x y _ => simp only [fBin, h x (by simp), h y (by simp)]
  case unOp op t x => simp only [fUn, h x (by simp)]
  case convert s d x => simp only [fConv, h x (by simp)]
  case makeFunc fn fs cs => cases fn <;> simp only [fMakeFunc, evList_congr cs.toList (env := env) (env' := env') (fun x hx => h x (by simp at hx ⊢; exact Or.inr hx))]
  case makeMap t r => cases r with
    | none => rfl
    | some r => simp only [fMakeMap, h r (by simp)]
  case makeSlice t l c => simp only [fMakeSlice, h l (by simp), h c (by simp)]
  case slice t x lo hi mx =>
    have hl : ∀ d, boundA lo d env = boundA lo d env' := fun d => boundA_congr fun y e => h y (by simp [e])
    have hh : ∀ d, boundA hi d env = boundA hi d env' := fun d => boundA_congr fun y e => h y (by simp [e])
    simp only [fSlice, sliceA, h x (by simp), hl, hh]
    cases mx with
    | none => rfl
    | some m => simp only [h m (by simp)]
  case fieldAddr s x f => simp only [fFieldAddr, h x (by simp)]
  case field s x f => simp only [fField, h x (by simp)]
  case indexAddr t x i => simp only [fIndexAddr, h x (by simp), h i (by simp)]
  case index t x i => simp only [fIndex, h x (by simp), h i (by simp)]
  case lookup t x k ok => simp only [fLookup, h x (by simp), h k (by simp)]
  case mapUpdate t m k v => simp only [fMapUpdate, h m (by simp), h k (by simp), h v (by simp)]
  case mapEntry t m k => simp only [fMapEntry, h m (by simp), h k (by simp)]
  case entryStore t m s v => simp only [fEntryStore, h m (by simp), h s (by simp), h v (by simp)]
  case extract x i => simp only [fExtract, h x (by simp)]
  case call c =>
    obtain ⟨callee, args, types⟩ := c
    have ha : evList env args.toList = evList env' args.toList := evList_congr _ fun x hx => h x (by simp [Call.operands]; exact Or.inr (by simpa using hx))
    cases callee with
    | value f => simp only [fCall, fCallee, ha, h f (by simp [Call.operands])]
    | builtin b => simp only [fCall, fCallee, ha]
    | invoke r m => rfl
  all_goals rfl

theorem pure_state {o : Op} (h : isPure o = true) (he : isEff o = false) (σ' : St) : opT o cx call env σ = opT o cx call env σ' := by
  cases o <;> first | rfl | (simp [isPure] at h; done) | (simp [isEff] at he; done)

theorem new_state {o : Op} (h : isNew o = true) {b : Blk} {f : Nat → AV} (ho : opT o cx call env σ = .new b f) (σ' : St) : opT o cx call env σ' = .new b f := by
  cases o <;> first | (simp [isNew] at h; done) | exact ho | skip
  rename_i s d x
  simp only [opT, fConv] at ho ⊢
  revert ho
  generalize evA x env = v
  intro ho
  unfold convA at ho ⊢
  split at ho
  · cases ho
  · rename_i su hsu
    split at ho
    · rw [intV_eq] at ho; cases ho
    · cases ho
    · exact ho
    · split at ho
      · split at ho
        · split at ho
          · cases ho
          · split at ho
            · split at ho
              · split at ho <;> cases ho
              · cases ho
            · cases ho
        · cases ho
      · cases ho
    · split at ho <;> cases ho
    · split at ho <;> cases ho
    · split at ho
      · split at ho
        · generalize Nat.blt _ _ = b at ho; cases b <;> cases ho
        · cases ho
      · cases ho
    · split at ho
      · split at ho
        · generalize liesAt _ _ _ _ _ _ _ = b at ho; cases b <;> cases ho
        · cases ho
      · cases ho
    · cases ho

/-- an operation looks at this temporary -/
def Looks (all : List Oper) (o : Oper) (t : Nat) : Prop :=
  Operand.tmp t ∈ o.op.operands.toList ∨ ∃ g want z, o.guard = some (g, want) ∧ nth all g = some z ∧ z.dst = some t

theorem evA_agree {env env' : Env} (hg : env.g = env'.g) {l : List Operand} (h : ∀ t, Operand.tmp t ∈ l → env.t.get .bad t = env'.t.get .bad t) : ∀ x ∈ l, evA x env = evA x env' := by
  intro x hx
  cases x with
  | tmp t => exact h t hx
  | const v => rfl
  | global g => show env.g.get .bad g = env'.g.get .bad g; rw [hg]
  | func f => rfl

theorem op_agree {env env' : Env} (hg : env.g = env'.g) {all : List Oper} {o : Oper} (h : ∀ t, Looks all o t → env.t.get .bad t = env'.t.get .bad t) : opT o.op cx call env σ = opT o.op cx call env' σ :=
  opT_congr (evA_agree hg fun t ht => h t (.inl ht))

theorem want_agree {env env' : Env} {all : List Oper} {o : Oper} (h : ∀ t, Looks all o t → env.t.get .bad t = env'.t.get .bad t) : wantA all env o.guard = wantA all env' o.guard := by
  unfold wantA
  cases hg : o.guard with
  | none => rfl
  | some p =>
    obtain ⟨j, want⟩ := p
    simp only [yieldA]
    cases hz : nth all j with
    | none => rfl
    | some z =>
      simp only
      cases hd : z.dst with
      | none => rfl
      | some d => simp only [h d (.inr ⟨j, want, z, hg, hz, hd⟩)]

theorem anyB_of {α : Type} {f : α → Bool} : ∀ {l : List α} {x : α}, x ∈ l → f x = true → anyB f l = true
  | y :: l, x, h, hf => by
    simp only [anyB, Bool.or_eq_true]
    cases h with
    | head => exact .inl hf
    | tail _ h => exact .inr (anyB_of h hf)
theorem allB_of {α : Type} {f : α → Bool} : ∀ {l : List α} {x : α}, allB f l = true → x ∈ l → f x = true
  | y :: l, x, h, hx => by
    simp only [allB, Bool.and_eq_true] at h
    cases hx with
    | head => exact h.1
    | tail _ hx => exact allB_of h.2 hx

theorem meets_of {all : List Oper} {x y : Oper} {t : Nat} (hx : x.dst = some t) (h : Looks all y t ∨ y.dst = some t) : meets all x y = true := by
  unfold meets
  rw [hx]
  simp only [Bool.or_eq_true]
  rcases h with (h | ⟨g, want, z, h1, h2, h3⟩) | h
  · exact .inl (.inr (anyB_of h (Nat.beq_refl t)))
  · refine .inr ?_
    simp only [h1, h2]
    simp only [dstIs, h3]
    exact Nat.beq_refl t
  · refine .inl (.inl ?_)
    simp only [dstIs, h]
    exact Nat.beq_refl t

/-! What is held for the same. -/
theorem cvEq_ok {x y : CV} (h : cvEq x y = true) {v : Value} (hy : RC π y v) : RC π x v := by
  unfold cvEq at h
  split at h
  · simp at h; subst h; exact hy
  · simp only [Bool.and_eq_true] at h
    have h1 := kindEq_ok h.1
    have h2 := h.2
    rw [intEq_ok] at h2
    simp at h2
    subst h1; subst h2
    exact hy
  · rename_i x y
    rw [bytesEq_ok] at h
    have h2 : x.data.toList = y.data.toList := by simpa [bytesOf] using h
    have : x = y := ByteArray.ext (Array.toList_inj.1 h2)
    subst this
    exact hy
  · exact hy
  · rename_i p q
    simp only [Bool.and_eq_true] at h
    have h1 := Nat.eq_of_beq_eq_true h.1
    have h2 := Nat.eq_of_beq_eq_true h.2
    have : p = q := Prod.ext h1 h2
    subst this
    exact hy
  · have h1 := Nat.eq_of_beq_eq_true h
    subst h1
    exact hy
  · rename_i p m c q m' d
    simp only [Bool.and_eq_true] at h
    obtain ⟨⟨⟨h1, h2⟩, h3⟩, h4⟩ := h
    have : p = q := Prod.ext (Nat.eq_of_beq_eq_true h1) (Nat.eq_of_beq_eq_true h2)
    subst this
    have := Nat.eq_of_beq_eq_true h3
    subst this
    have : c = d := by
      cases c <;> cases d <;> simp only at h4 <;> first | (have := Nat.eq_of_beq_eq_true h4; subst this; rfl) | (cases h4)
    subst this
    exact hy
  · exact hy
  · have := Nat.eq_of_beq_eq_true h; subst this; exact hy
  · exact hy
  · exact hy
  · cases h
theorem cvsEq_ok : ∀ {x y : List CV} {v : List Value}, cvsEq x y = true → RL π y v → RL π x v
  | [], [], _, _, h => h
  | a :: x, b :: y, [], _, h => h.elim
  | a :: x, b :: y, v :: vs, h, hy => by
    simp only [cvsEq, Bool.and_eq_true] at h
    exact ⟨cvEq_ok h.1 hy.1, cvsEq_ok h.2 hy.2⟩
theorem avEq_ok {x y : AV} (h : avEq x y = true) {v : Value} (hy : RA π y v) : RA π x v := by
  unfold avEq at h
  split at h
  · simp only [RA] at hy ⊢; exact cvEq_ok h hy
  · simp only [RA] at hy ⊢; obtain ⟨a, e, r⟩ := hy; exact ⟨a, e, cvsEq_ok h r⟩
  · cases h

/-! Masks. -/
theorem bit_eq (m i : Nat) : bit m i = m.testBit i := by
  have e : bit m i = Nat.beq (m / 2 ^ i % 2) 1 := by
    show Nat.beq (Nat.mod (Nat.shiftRight m i) 2) 1 = _
    have : Nat.shiftRight m i = m / 2 ^ i := Nat.shiftRight_eq_div_pow m i
    rw [this]; rfl
  rw [e, Nat.testBit_eq_decide_div_mod_eq]
  by_cases h : m / 2 ^ i % 2 = 1
  · rw [h]; rfl
  · have h2 : Nat.beq (m / 2 ^ i % 2) 1 = false := by
      cases hb : Nat.beq (m / 2 ^ i % 2) 1 with
      | false => rfl
      | true => exact absurd (Nat.eq_of_beq_eq_true hb) h
    rw [h2]; simp [h]
theorem bit_or (a b i : Nat) : bit (Nat.lor a b) i = (bit a i || bit b i) := by
  simp only [bit_eq]; exact Nat.testBit_or a b i
theorem bit_pow (n i : Nat) : bit (Nat.pow 2 n) i = decide (n = i) := by
  simp only [bit_eq]; exact Nat.testBit_two_pow
theorem edge_bit (ms : List Nat) (i : Nat) : ∀ (es : List Edge), bit (edgeMask ms es) i = true ↔ ∃ e ∈ es, Region.binds .any e = true ∧ (i = e.on ∨ bef ms i e.on = true)
  | [] => by
    have : bit (edgeMask ms []) i = false := by show bit 0 i = false; rw [bit_eq]; exact Nat.zero_testBit i
    simp [this]
  | e :: es => by
    have ih := edge_bit ms i es
    unfold edgeMask
    cases hb : Region.binds .any e with
    | false => simp only [cond_false, ih, List.mem_cons]; constructor
               · rintro ⟨x, hx, h⟩; exact ⟨x, .inr hx, h⟩
               · rintro ⟨x, rfl | hx, h⟩
                 · rw [hb] at h; exact absurd h.1 (by simp)
                 · exact ⟨x, hx, h⟩
    | true =>
      simp only [cond_true, bit_or, bit_pow, Bool.or_eq_true, decide_eq_true_eq]
      rw [ih]
      constructor
      · rintro ((h | h) | ⟨x, hx, h⟩)
        · exact ⟨e, List.mem_cons_self .., hb, .inl h.symm⟩
        · exact ⟨e, List.mem_cons_self .., hb, .inr h⟩
        · exact ⟨x, List.mem_cons_of_mem _ hx, h⟩
      · rintro ⟨x, hx, h1, h2⟩
        cases hx with
        | head => exact .inl (h2.imp Eq.symm id)
        | tail _ hx => exact .inr ⟨x, hx, h1, h2⟩
theorem numbered_mem {α : Type} : ∀ (l : List α) (k i : Nat) (x : α), l[i]? = some x → (k + i, x) ∈ numbered k l
  | [], _, _, _, h => by simp at h
  | y :: l, k, 0, x, h => by simp at h; subst h; exact List.mem_cons_self ..
  | y :: l, k, i + 1, x, h => by
    have := numbered_mem l (k + 1) i x (by simpa using h)
    rw [show k + (i + 1) = k + 1 + i by omega]
    exact List.mem_cons_of_mem _ this
theorem beq_iff {a b : Nat} : Nat.beq a b = true ↔ a = b := ⟨Nat.eq_of_beq_eq_true, fun e => by subst e; exact Nat.beq_refl a⟩

structure DrawFacts (all : List Oper) (ms : List Nat) : Prop where
  mask : ∀ (p : Nat) (o : Oper) (i : Nat), all[p]? = some o → (bef ms i p = true ↔ ∃ e ∈ o.after.toList, Region.binds .any e = true ∧ (i = e.on ∨ bef ms i e.on = true))
  meet : ∀ (p q : Nat) (x y : Oper), all[p]? = some x → all[q]? = some y → p ≠ q → meets all x y = true → bef ms p q = true ∨ bef ms q p = true

theorem drawOk_ok {all : List Oper} {ms : List Nat} (h : drawOk all ms (numbered 0 all) = true) : DrawFacts all ms where
  mask p o i hp := by
    simp only [drawOk, Bool.and_eq_true] at h
    have h1 := allB_of h.1 (numbered_mem all 0 p o hp)
    simp only [Nat.zero_add, beq_iff] at h1
    unfold bef
    rw [h1]
    exact edge_bit ms i _
  meet p q x y hp hq hne hm := by
    simp only [drawOk, Bool.and_eq_true] at h
    have h1 := allB_of h.2 (numbered_mem all 0 p x hp)
    have h2 := allB_of h1 (numbered_mem all 0 q y hq)
    simp only [Nat.zero_add, hm, Bool.or_eq_true, beq_iff, Bool.not_true, Bool.false_eq_true, or_false] at h2
    exact h2.resolve_left hne
end Go.Run
