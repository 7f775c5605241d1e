import Derived.Test.YtkikpolmfaiabaaGreatDoorRunS24
namespace Go.Run
variable {cx : Cx} {π : Pl} {σ : St} {w : World} {env : Env} {a : Act} {call : CallF}

/-- a state that fits, come by from another one -/
structure Fit (cx : Cx) (n : Nat) (π : Pl) (σ : St) (w : World) (env' : Env) (σ' : St) (a' : Act) (w' : World) : Prop where
  ex : ∃ π', R π' σ' w' ∧ RE π' env' a' ∧ Go π σ w π' σ' w'
  size : a'.tmps.size = n
  defers : a'.defers = []
  g : env'.g = cx.g

def Fits (cx : Cx) (n : Nat) (π : Pl) (σ : St) (w : World) : Res → Exit → Act → World → Prop
  | .fail, _, _, _ => False
  | .nrm env σ', e, a, w' => e = .normal ∧ Fit cx n π σ w env σ' a w'
  | .exit id env σ', e, a, w' => e = .exit id ∧ Fit cx n π σ w env σ' a w'
  | .ret env σ', e, a, w' => e = .ret ∧ Fit cx n π σ w env σ' a w'

theorem glob_of (hE : RE π env a) (hg : env.g = cx.g) : GlobOk cx π := fun g => by rw [← hg]; exact hE.glob g

theorem Act.put_size (a : Act) (d : Option Tmp) (v : Value) : (a.put d v).tmps.size = a.tmps.size := by cases d <;> simp [Act.put]
theorem Act.put_def (a : Act) (d : Option Tmp) (v : Value) : (a.put d v).defers = a.defers := by cases d <;> rfl
theorem putA_g (env : Env) (d : Option Tmp) (v : AV) : (putA env d v).g = env.g := by cases d <;> rfl

theorem dstOk_ok {n : Nat} {o : Oper} (h : dstOk n o = true) (hn : a.tmps.size = n) : ∀ t, o.dst = some t → t < a.tmps.size := fun t ht => by
  unfold dstOk at h
  rw [ht] at h
  have h' : t < n := by simpa [Nat.blt_eq] using h
  rw [hn]; exact h'

theorem Fit.put {n : Nat} {d : Option Tmp} {π0 : Pl} {σ0 : St} {w0 : World} {env : Env} {a : Act} {π : Pl} {σ' : St} {w' : World} (hd : ∀ t, d = some t → t < a.tmps.size) (hE : RE π env a) (hs : a.tmps.size = n) (hf : a.defers = []) (hg : env.g = cx.g)
    {v : AV} {x : Value} (hR : R π σ' w') (hx : RA π v x) (hGo : Go π0 σ0 w0 π σ' w') : Fit cx n π0 σ0 w0 (putA env d v) σ' (a.put d x) w' :=
  ⟨⟨π, hR, hE.put hd hx, hGo⟩, by rw [Act.put_size]; exact hs, by rw [Act.put_def]; exact hf, by rw [putA_g]; exact hg⟩


/-- an operation, and what comes behind it -/
theorem conts_of {n : Nat} {o : Oper} {k : Env → St → Res} {next : Act → World → Prop} {π0 : Pl} {σ0 : St} {w0 : World} (hR : R π σ w) (hE : RE π env a) (hGo : Go π0 σ0 w0 π σ w) (hs : a.tmps.size = n) (hf : a.defers = []) (hg : env.g = cx.g)
    (hd : dstOk n o = true) {out : Out} (hr : opOut o.dst k env σ out ≠ .fail)
    (hk : ∀ env' σ' a' w', Fit cx n π0 σ0 w0 env' σ' a' w' → opOut o.dst k env σ out = k env' σ' → next a' w') : Conts o π σ w a next out := by
  cases out with
  | no => exact hr rfl
  | val v => exact fun x hx => hk _ _ _ _ (Fit.put (dstOk_ok hd hs) hE hs hf hg hR hx hGo) rfl
  | new b f =>
    intro x w1 pl hn
    obtain ⟨h1, h2, h3⟩ := hR.push hn
    exact hk _ _ _ _ (Fit.put (dstOk_ok hd hs) (hE.mono (hR.le h3)) hs hf hg h1 h2 (hGo.trans h3)) rfl
  | st v σ' =>
    intro x w1 π' h1 h2 h3
    exact hk _ _ _ _ (Fit.put (dstOk_ok hd hs) (hE.mono (hR.le h3)) hs hf hg h1 h2 (hGo.trans h3)) rfl

theorem yield_ok {ops : Array Oper} (hE : RE π env a) {j : Nat} {want b : Bool} (h : yieldA ops.toList env j want = some b) : (yielded ops a.tmps j == some want) = b := by
  unfold yieldA at h
  rw [nth_eq] at h
  unfold yielded
  have e : ops[j]? = ops.toList[j]? := by simp
  rw [e]
  cases ho : ops.toList[j]? with
  | none => rw [ho] at h; cases h; rfl
  | some o =>
    rw [ho] at h
    simp only at h
    simp only [Option.bind_some]
    cases hd : o.dst with
    | none => rw [hd] at h; cases h; rfl
    | some d =>
      rw [hd] at h
      simp only at h
      simp only [Option.bind_some]
      have hv := hE.tmp d
      split at h
      · rename_i c hc
        rw [hc] at hv
        simp only [RA] at hv
        have hv' : a.tmps.getD d undef = .bool c := hv
        cases h
        cases ht : a.tmps[d]? with
        | none => simp [Array.getD_eq_getD_getElem?, ht, undef] at hv'
        | some v =>
          simp [Array.getD_eq_getD_getElem?, ht] at hv'
          subst hv'
          rfl
      · rename_i hc
        rw [hc] at hv
        simp only [RA] at hv
        obtain ⟨l, hl, hl2⟩ := hv
        cases h
        cases ht : a.tmps[d]? with
        | none => rfl
        | some v =>
          simp [Array.getD_eq_getD_getElem?, ht] at hl
          subst hl
          rfl
      · cases h

theorem want_ok {ops : Array Oper} (hE : RE π env a) {o : Oper} {b : Bool} (h : wantA ops.toList env o.guard = some b) : Region.wanted o (yielded ops a.tmps) = b := by
  unfold wantA at h
  unfold Region.wanted
  cases hg : o.guard with
  | none => rw [hg] at h; cases h; rfl
  | some gw =>
    obtain ⟨j, want⟩ := gw
    rw [hg] at h
    exact yield_ok hE h

theorem opStep_wp {n : Nat} {ops : Array Oper} {o : Oper} {k : Env → St → Res} {K : Act → World → Prop} {Q : Exit → Act → World → Prop} {π0 : Pl} {σ0 : St} {w0 : World} (hx : ExtOk cx) (hc : CallOk cx call)
    (hfit : Fit cx n π0 σ0 w0 env σ a w) (hd : dstOk n o = true) {i : Nat} (hi : ops[i]? = some o) (hr : opStep ops.toList o cx call k env σ ≠ .fail)
    (hk : ∀ env' σ' a' w', Fit cx n π0 σ0 w0 env' σ' a' w' → opStep ops.toList o cx call k env σ = k env' σ' → K a' w') : wpOp cx.P ops Q i K a w := by
  obtain ⟨⟨π, hR, hE, hGo⟩, hs, hf, hg⟩ := hfit
  unfold opStep at hr hk
  unfold wpOp
  simp only [hi]
  cases hw : wantA ops.toList env o.guard with
  | none => rw [hw] at hr; exact absurd rfl hr
  | some b =>
    rw [hw] at hr hk
    rw [want_ok hE hw]
    cases b with
    | false =>
      simp only [Bool.false_eq_true, if_false]
      exact hk _ _ _ _ (Fit.put (dstOk_ok hd hs) hE hs hf hg hR (RA_undef π) hGo) rfl
    | true =>
      simp only [if_true]
      exact .inl (op_sound hx hc hR hE (glob_of hE hg) (conts_of hR hE hGo hs hf hg hd hr hk))

theorem seq_wp {n : Nat} {ops : Array Oper} {Q : Exit → Act → World → Prop} {π0 : Pl} {σ0 : St} {w0 : World} (hx : ExtOk cx) (hc : CallOk cx call) (hd : allB (dstOk n) ops.toList = true) :
    ∀ (l : List Oper) (i : Nat), ops.toList.drop i = l → ∀ (env : Env) (σ : St) (a : Act) (w : World), Fit cx n π0 σ0 w0 env σ a w → seqR ops.toList l cx call env σ ≠ .fail →
      (∀ env' σ' a' w', Fit cx n π0 σ0 w0 env' σ' a' w' → seqR ops.toList l cx call env σ = .nrm env' σ' → Q .normal a' w') → wpOps cx.P ops Q (List.range' i l.length) a w
  | [], _, _, env, σ, a, w, hfit, _, hk => hk _ _ _ _ hfit rfl
  | o :: l, i, hl, env, σ, a, w, hfit, hr, hk => by
    have hi : ops.toList[i]? = some o := by
      have := congrArg List.head? hl
      simpa [List.head?_drop] using this
    have hi' : ops[i]? = some o := by simpa using hi
    have hl' : ops.toList.drop (i + 1) = l := by
      have := congrArg List.tail hl
      simpa [List.tail_drop] using this
    have hdo : dstOk n o = true := by
      have : ∀ (l : List Oper), allB (dstOk n) l = true → ∀ o ∈ l, dstOk n o = true := by
        intro l
        induction l with
        | nil => intro _ o ho; cases ho
        | cons x l ih =>
          intro h o ho
          simp only [allB, Bool.and_eq_true] at h
          cases ho with
          | head => exact h.1
          | tail _ h' => exact ih h.2 o h'
      exact this _ hd o (List.mem_of_getElem? hi)
    rw [List.length_cons, List.range'_succ, wpOps_cons]
    have hstep : seqR ops.toList (o :: l) cx call env σ = opStep ops.toList o cx call (fun env σ => seqR ops.toList l cx call env σ) env σ := rfl
    rw [hstep] at hr hk
    exact opStep_wp hx hc hfit hdo hi' hr fun env' σ' a' w' hfit' he => seq_wp hx hc hd l (i + 1) hl' env' σ' a' w' hfit' (he ▸ hr) fun env2 σ2 a2 w2 hf2 he2 => hk env2 σ2 a2 w2 hf2 (he.trans he2)
end Go.Run
