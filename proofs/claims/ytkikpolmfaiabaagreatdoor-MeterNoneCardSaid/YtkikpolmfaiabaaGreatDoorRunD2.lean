import Derived.Test.YtkikpolmfaiabaaGreatDoorRunD1
namespace Go.Run

/-! The run that is made, as a list of what happened. -/

inductive Kind where
  | quiet
  | new (b : Blk)
  | eff (σ : St)

structure Ev where
  i : Nat
  o : Oper
  v : AV
  kind : Kind

def valStep (D : Nat → Bool) (t : Nat) (acc : AV) (ev : Ev) : AV := if D ev.i = true ∧ ev.o.dst = some t then ev.v else acc
def valD (D : Nat → Bool) (T : List Ev) (v0 : AV) (t : Nat) : AV := T.foldl (valStep D t) v0
def stStep (D : Nat → Bool) (σ : St) (ev : Ev) : St := match ev.kind with
  | .eff σ' => if D ev.i = true then σ' else σ
  | _ => σ
def stD (D : Nat → Bool) (T : List Ev) (σ0 : St) : St := T.foldl (stStep D) σ0
def xsStep (D : Nat → Bool) (base : Nat) (xs : List (Nat × Blk)) (ev : Ev) : List (Nat × Blk) := match ev.kind with
  | .eff _ => if D ev.i = true then [] else xs
  | .new b => if D ev.i = true then xs ++ [(base + ev.i, b)] else xs
  | .quiet => xs
def xsD (D : Nat → Bool) (base : Nat) (T : List Ev) : List (Nat × Blk) := T.foldl (xsStep D base) []
def histStep (H : List (Nat × St)) (ev : Ev) : List (Nat × St) := match ev.kind with
  | .eff σ' => (ev.i, σ') :: H
  | _ => H
def histOf (H0 : List (Nat × St)) (T : List Ev) : List (Nat × St) := T.foldl histStep H0
noncomputable def insAll (σ : St) (xs : List (Nat × Blk)) : St := xs.foldl (fun σ p => σ.put p.1 p.2) σ
def top : Nat → Bool := fun _ => true
noncomputable def cur (base : Nat) (σ0 : St) (T : List Ev) : St := insAll (stD top T σ0) (xsD top base T)

def Reach (ms : List Nat) (p : Nat) (H : List (Nat × St)) (σ : St) : Prop := ∃ H1 i H2, H = H1 ++ (i, σ) :: H2 ∧ ∀ x ∈ H1, bef ms x.1 p = false

/-- a region's run -/
structure Rg where
  cx : Cx
  call : CallF
  all : List Oper
  ms : List Nat
  base : Nat
  res : Nat
  env0 : Env
  σ0 : St
  n : Nat

def OutOk (r : Rg) (T1 : List Ev) (ev : Ev) (env : Env) : Prop := match ev.kind with
  | .quiet => (wantA r.all env ev.o.guard = some false ∧ ev.v = .tup []) ∨
      (wantA r.all env ev.o.guard = some true ∧ ∀ σ, Reach r.ms ev.i (histOf [(r.n, r.σ0)] T1) σ → ∃ v', opT ev.o.op r.cx r.call env σ = .val v' ∧ ∀ π x, RA π v' x → RA π ev.v x)
  | .new b => ev.i < r.res ∧ wantA r.all env ev.o.guard = some true ∧ ∃ f, ev.v = f (r.base + ev.i) ∧ ∀ σ, opT ev.o.op r.cx r.call env σ = .new b f
  | .eff σ' => (∀ i ∈ T1.map (·.i), bef r.ms i ev.i = true) ∧
      ((wantA r.all env ev.o.guard = some false ∧ ev.v = .tup [] ∧ σ' = cur r.base r.σ0 T1) ∨
       (wantA r.all env ev.o.guard = some true ∧ ((opT ev.o.op r.cx r.call env (cur r.base r.σ0 T1) = .val ev.v ∧ σ' = cur r.base r.σ0 T1) ∨ opT ev.o.op r.cx r.call env (cur r.base r.σ0 T1) = .st ev.v σ')))

structure EvOk (r : Rg) (T1 : List Ev) (ev : Ev) : Prop where
  at_ : r.all[ev.i]? = some ev.o
  fresh : ev.i ∉ T1.map (·.i)
  pre : ∀ i, bef r.ms i ev.i = true → i ∈ T1.map (·.i)
  out : ∃ env, env.g = r.cx.g ∧ (∀ t, env.t.get .bad t = valD top T1 (r.env0.t.get .bad t) t) ∧ OutOk r T1 ev env

structure Traced (r : Rg) (T : List Ev) (done : Nat) (H : List (Nat × St)) (env : Env) (σ : St) : Prop where
  ok : ∀ T1 ev T2, T = T1 ++ ev :: T2 → EvOk r T1 ev
  done : ∀ i, bit done i = true ↔ i ∈ T.map (·.i)
  hist : H = histOf [(r.n, r.σ0)] T
  g : env.g = r.cx.g
  val : ∀ t, env.t.get .bad t = valD top T (r.env0.t.get .bad t) t
  st : σ = cur r.base r.σ0 T

theorem putA_get (env : Env) (d : Option Tmp) (v : AV) (t : Nat) : (putA env d v).t.get .bad t = if d = some t then v else env.t.get .bad t := by
  cases d with
  | none => simp [putA]
  | some d =>
    show (env.t.set .bad v d).get .bad t = _
    rw [Tr.get_set]
    by_cases h : t = d
    · subst h; simp
    · simp [h, Ne.symm h]

theorem Traced.snoc {r : Rg} {T : List Ev} {done : Nat} {H : List (Nat × St)} {env : Env} {σ : St} (h : Traced r T done H env σ) {ev : Ev} (he : EvOk r T ev) {H' : List (Nat × St)} {σ' : St} (hH : H' = histStep H ev)
    (hσ : σ' = match ev.kind with | .quiet => σ | .new b => σ.put (r.base + ev.i) b | .eff σ' => σ') :
    Traced r (T ++ [ev]) (Nat.lor done (Nat.pow 2 ev.i)) H' (putA env ev.o.dst ev.v) σ' where
  ok T1 e T2 hT := by
    rcases List.eq_nil_or_concat T2 with rfl | ⟨T3, e3, rfl⟩
    · have := List.append_inj' hT rfl
      obtain ⟨rfl, h2⟩ := this
      cases h2
      exact he
    · have : T ++ [ev] = (T1 ++ e :: T3) ++ [e3] := by rw [hT]; simp
      obtain ⟨h1, _⟩ := List.append_inj' this rfl
      exact h.ok T1 e T3 h1
  done i := by
    rw [bit_or, bit_pow]
    simp only [List.map_append, List.mem_append, Bool.or_eq_true, h.done i, decide_eq_true_eq, List.map_cons, List.map_nil, List.mem_singleton]
    exact or_congr Iff.rfl ⟨Eq.symm, Eq.symm⟩
  hist := by rw [hH, h.hist]; simp [histOf]
  g := by rw [putA_g]; exact h.g
  val t := by
    rw [putA_get, h.val t]
    simp only [valD, List.foldl_append, List.foldl_cons, List.foldl_nil]
    simp only [valStep, top, true_and]
  st := by
    rw [hσ, h.st]
    simp only [cur, stD, xsD, List.foldl_append, List.foldl_cons, List.foldl_nil, stStep, xsStep]
    cases ev.kind with
    | quiet => rfl
    | new b => simp [top, insAll]
    | eff s => simp [top, insAll]

theorem sameIn_ok {p : Nat} {o : Op} {cx : Cx} {call : CallF} {env : Env} {ms : List Nat} {v : AV} : ∀ {H : List (Nat × St)}, sameIn p o cx call env ms v H = true → ∀ σ, Reach ms p H σ →
    ∃ v', opT o cx call env σ = .val v' ∧ ∀ π x, RA π v' x → RA π v x
  | [], _, σ, ⟨H1, i, H2, h, _⟩ => by simp at h
  | (j, τ) :: H, hs, σ, ⟨H1, i, H2, h, hn⟩ => by
    simp only [sameIn, Bool.and_eq_true, Bool.or_eq_true] at hs
    obtain ⟨h1, h2⟩ := hs
    cases H1 with
    | nil =>
      simp only [List.nil_append, List.cons.injEq, Prod.mk.injEq] at h
      obtain ⟨⟨_, rfl⟩, _⟩ := h
      split at h1
      · rename_i v' hv'
        exact ⟨v', hv', fun π x hx => avEq_ok h1 hx⟩
      · cases h1
    | cons y H1 =>
      simp only [List.cons_append, List.cons.injEq] at h
      obtain ⟨rfl, h⟩ := h
      have hb := hn (j, τ) (List.mem_cons_self ..)
      simp only [hb, Bool.false_eq_true, false_or] at h2
      exact sameIn_ok h2 σ ⟨H1, i, H2, h, fun x hx => hn x (List.mem_cons_of_mem _ hx)⟩

theorem lor_sub {a b : Nat} (h : Nat.lor a b = a) (i : Nat) (hb : bit b i = true) : bit a i = true := by
  rw [← h, bit_or, hb]; simp

theorem draw_trace (r : Rg) (full : Nat) : ∀ (l : List (Nat × Oper)), (∀ p ∈ l, r.all[p.1]? = some p.2) → ∀ (T : List Ev) (done : Nat) (H : List (Nat × St)) (env : Env) (σ : St), Traced r T done H env σ →
    drawList r.all r.ms r.base r.res full l r.cx r.call done H env σ ≠ .fail →
    ∃ T' done' H' env' σ', Traced r T' done' H' env' σ' ∧ done' = full ∧ drawList r.all r.ms r.base r.res full l r.cx r.call done H env σ = .nrm env' σ'
  | [], _, T, done, H, env, σ, h, hr => by
    have e : drawList r.all r.ms r.base r.res full [] r.cx r.call done H env σ = (bif Nat.beq done full then .nrm env σ else .fail) := rfl
    rw [e] at hr ⊢
    cases hb : Nat.beq done full with
    | false => rw [hb] at hr; exact absurd rfl hr
    | true => exact ⟨T, done, H, env, σ, h, Nat.eq_of_beq_eq_true hb, rfl⟩
  | p :: l, hl, T, done, H, env, σ, h, hr => by
    obtain ⟨i, o⟩ := p
    have hat := hl (i, o) (List.mem_cons_self ..)
    have hl' : ∀ p ∈ l, r.all[p.1]? = some p.2 := fun p hp => hl p (List.mem_cons_of_mem _ hp)
    have e : drawList r.all r.ms r.base r.res full ((i, o) :: l) r.cx r.call done H env σ = drawStep r.all (i, o) r.ms r.base r.res r.cx r.call (fun done H env σ => drawList r.all r.ms r.base r.res full l r.cx r.call done H env σ) done H env σ := rfl
    rw [e] at hr ⊢
    unfold drawStep at hr ⊢
    cases hc : (!(bit done i) && Nat.beq (Nat.lor done ((nth r.ms i).getD 0)) done) with
    | false => simp only [hc] at hr; exact absurd rfl hr
    | true =>
      simp only [hc, cond_true] at hr ⊢
      simp only [Bool.and_eq_true, Bool.not_eq_true', beq_iff] at hc
      obtain ⟨hfresh, hsub⟩ := hc
      have fresh : i ∉ T.map (·.i) := fun hm => by rw [(h.done i).2 hm] at hfresh; cases hfresh
      have pre : ∀ j, bef r.ms j i = true → j ∈ T.map (·.i) := fun j hj => (h.done j).1 (lor_sub hsub j hj)
      -- what goes on
      have go : ∀ (ev : Ev) (H' : List (Nat × St)) (σ' : St), ev.i = i → ev.o = o → OutOk r T ev env → H' = histStep H ev → (σ' = match ev.kind with | .quiet => σ | .new b => σ.put (r.base + ev.i) b | .eff σ' => σ') →
          drawList r.all r.ms r.base r.res full l r.cx r.call (Nat.lor done (Nat.pow 2 i)) H' (putA env o.dst ev.v) σ' ≠ .fail →
          ∃ T' done' H'' env' σ'', Traced r T' done' H'' env' σ'' ∧ done' = full ∧ drawList r.all r.ms r.base r.res full l r.cx r.call (Nat.lor done (Nat.pow 2 i)) H' (putA env o.dst ev.v) σ' = .nrm env' σ'' := by
        rintro ev H' σ' rfl rfl hout hH hσ hne
        exact draw_trace r full l hl' _ _ _ _ _ (h.snoc ⟨hat, fresh, pre, env, h.g, h.val, hout⟩ hH hσ) hne
      have goEff : ∀ (v : AV) (σ' : St), ((wantA r.all env o.guard = some false ∧ v = .tup [] ∧ σ' = cur r.base r.σ0 T) ∨
            (wantA r.all env o.guard = some true ∧ ((opT o.op r.cx r.call env (cur r.base r.σ0 T) = .val v ∧ σ' = cur r.base r.σ0 T) ∨ opT o.op r.cx r.call env (cur r.base r.σ0 T) = .st v σ'))) →
          drawEff i o.dst r.ms (fun done H env σ => drawList r.all r.ms r.base r.res full l r.cx r.call done H env σ) done H env v σ' ≠ .fail →
          ∃ T' done' H'' env' σ'', Traced r T' done' H'' env' σ'' ∧ done' = full ∧ drawEff i o.dst r.ms (fun done H env σ => drawList r.all r.ms r.base r.res full l r.cx r.call done H env σ) done H env v σ' = .nrm env' σ'' := by
        intro v σ' ho hne
        unfold drawEff at hne ⊢
        cases hb : Nat.beq ((nth r.ms i).getD 0) done with
        | false => rw [hb] at hne; exact absurd rfl hne
        | true =>
          rw [hb] at hne
          simp only [cond_true] at hne ⊢
          have hb' := Nat.eq_of_beq_eq_true hb
          refine go ⟨i, o, v, .eff σ'⟩ _ σ' rfl rfl ⟨fun j hj => ?_, ho⟩ rfl rfl hne
          show bit ((nth r.ms i).getD 0) j = true
          rw [hb']
          exact (h.done j).2 hj
      cases hw : wantA r.all env o.guard with
      | none => rw [hw] at hr; exact absurd rfl hr
      | some b =>
        rw [hw] at hr
        cases b with
        | false =>
          simp only at hr ⊢
          cases hi : isEff o.op with
          | true =>
            rw [hi] at hr
            simp only [cond_true] at hr ⊢
            exact goEff (.tup []) σ (.inl ⟨hw, rfl, h.st⟩) hr
          | false =>
            rw [hi] at hr
            simp only [cond_false] at hr ⊢
            exact go ⟨i, o, .tup [], .quiet⟩ H σ rfl rfl (.inl ⟨hw, rfl⟩) rfl rfl hr
        | true =>
          simp only at hr ⊢
          unfold drawOut at hr ⊢
          cases hout : opT o.op r.cx r.call env σ with
          | no => rw [hout] at hr; exact absurd rfl hr
          | val v =>
            rw [hout] at hr
            simp only at hr ⊢
            cases hi : isEff o.op with
            | true =>
              rw [hi] at hr
              simp only [cond_true] at hr ⊢
              exact goEff v σ (.inr ⟨hw, .inl ⟨by rw [← h.st]; exact hout, h.st⟩⟩) hr
            | false =>
              rw [hi] at hr
              simp only [cond_false] at hr ⊢
              cases hs : (isPure o.op || sameIn i o.op r.cx r.call env r.ms v H) with
              | false => rw [hs] at hr; exact absurd rfl hr
              | true =>
                rw [hs] at hr
                simp only [cond_true] at hr ⊢
                refine go ⟨i, o, v, .quiet⟩ H σ rfl rfl (.inr ⟨hw, fun τ hτ => ?_⟩) rfl rfl hr
                simp only [Bool.or_eq_true] at hs
                rcases hs with hs | hs
                · exact ⟨v, by rw [pure_state hs hi σ]; exact hout, fun π x hx => hx⟩
                · exact sameIn_ok hs τ (by rw [h.hist]; exact hτ)
          | new b f =>
            rw [hout] at hr
            simp only at hr ⊢
            cases hs : (isNew o.op && Nat.blt i r.res) with
            | false => rw [hs] at hr; exact absurd rfl hr
            | true =>
              rw [hs] at hr
              simp only [cond_true] at hr ⊢
              simp only [Bool.and_eq_true, Nat.blt_eq] at hs
              exact go ⟨i, o, f (r.base + i), .new b⟩ H _ rfl rfl ⟨hs.2, hw, f, rfl, fun τ => new_state hs.1 hout τ⟩ rfl rfl hr
          | st v σ' =>
            rw [hout] at hr
            simp only at hr ⊢
            cases hi : isEff o.op with
            | false => rw [hi] at hr; exact absurd rfl hr
            | true =>
              rw [hi] at hr
              simp only [cond_true] at hr ⊢
              exact goEff v σ' (.inr ⟨hw, .inr (by rw [← h.st]; exact hout)⟩) hr

/-! The list that is run. -/
theorem keepB_mem {α : Type} {f : α → Bool} : ∀ {l : List α} {x : α}, x ∈ keepB f l → x ∈ l
  | y :: l, x, h => by
    unfold keepB at h
    cases hf : f y with
    | false => rw [hf] at h; exact List.mem_cons_of_mem _ (keepB_mem h)
    | true =>
      rw [hf] at h
      simp only [cond_true] at h
      cases h with
      | head => exact List.mem_cons_self ..
      | tail _ h => exact List.mem_cons_of_mem _ (keepB_mem h)
theorem late_mem {ms : List Nat} : ∀ {es l : List (Nat × Oper)} {p : Nat × Oper}, p ∈ late ms es l → p ∈ es ∨ p ∈ l
  | [], l, p, h => .inr h
  | e :: es, l, p, h => by
    unfold late at h
    rcases List.mem_append.1 h with h | h
    · exact .inr (keepB_mem h)
    · cases h with
      | head => exact .inl (List.mem_cons_self ..)
      | tail _ h => exact (late_mem h).imp (List.mem_cons_of_mem _) keepB_mem
theorem numbered_at {α : Type} : ∀ (l : List α) (k : Nat) (p : Nat × α), p ∈ numbered k l → k ≤ p.1 ∧ l[p.1 - k]? = some p.2
  | y :: l, k, p, h => by
    unfold numbered at h
    cases h with
    | head => exact ⟨Nat.le_refl _, by simp⟩
    | tail _ h =>
      obtain ⟨h1, h2⟩ := numbered_at l (k + 1) p h
      refine ⟨by omega, ?_⟩
      rw [show p.1 - k = (p.1 - (k + 1)) + 1 by omega]
      simpa using h2
end Go.Run
