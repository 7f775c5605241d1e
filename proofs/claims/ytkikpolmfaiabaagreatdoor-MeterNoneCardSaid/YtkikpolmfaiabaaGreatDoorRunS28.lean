import Derived.Test.YtkikpolmfaiabaaGreatDoorRunS27
namespace Go.Run
variable {cx : Cx} {π : Pl} {σ : St} {w : World} {env : Env} {a : Act} {call : CallF}

theorem RT.get : ∀ {l : List AV} {vs : List Value} {i : Nat}, RT π l vs → RA π ((l[i]?).getD (.tup [])) ((vs[i]?).getD undef)
  | [], vs, i, h => by have := h.nil; subst this; simp only [List.getElem?_nil, Option.getD_none]; exact RA_undef π
  | c :: l, [], i, h => by simp [RT] at h
  | c :: l, v :: vs, 0, h => by simp only [RT] at h; simpa using h.1
  | c :: l, v :: vs, i + 1, h => by simp only [RT] at h; simpa using h.2.get (i := i)

theorem argsEnv_get : ∀ (l : List AV) (i : Nat) (e : Tr AV) (t : Nat), (argsEnv l i e).get .bad t = if i ≤ t ∧ t < i + l.length then (l[t - i]?).getD .bad else e.get .bad t
  | [], i, e, t => by simp only [argsEnv, List.length_nil]; rw [if_neg]; omega
  | v :: l, i, e, t => by
    have ih := argsEnv_get l (i + 1) (e.set .bad v i) t
    have e1 : (argsEnv (v :: l) i e) = argsEnv l (i + 1) (e.set .bad v i) := rfl
    rw [e1, ih, Tr.get_set]
    by_cases h1 : t = i
    · subst h1
      rw [if_neg (by omega), if_pos rfl, if_pos (by simp)]
      simp
    · by_cases h2 : i + 1 ≤ t ∧ t < i + 1 + l.length
      · rw [if_pos h2, if_pos (by simp only [List.length_cons]; omega)]
        have : t - i = (t - (i + 1)) + 1 := by omega
        rw [this]; simp
      · rw [if_neg h2, if_neg h1, if_neg (by simp only [List.length_cons]; omega)]

theorem args_ok (hG : GlobOk cx π) {args : List AV} {vs : Array Value} (h : RT π args vs.toList) (k : Nat) : RE π ⟨argsEnv args 0 .leaf, cx.g⟩ { tmps := vs ++ Array.replicate k undef, defers := [] } where
  tmp t := by
    show RA π ((argsEnv args 0 .leaf).get .bad t) _
    rw [argsEnv_get]
    have hl := h.length
    by_cases ht : t < args.length
    · rw [if_pos (by omega)]
      have := h.get (i := t)
      have h1 : args[t]? = some args[t] := List.getElem?_eq_getElem ht
      have hv : t < vs.size := by simpa [hl] using ht
      have h2 : vs.toList[t]? = some vs[t] := by simp [hv]
      rw [h1, h2] at this
      simp only [Nat.sub_zero, h1, Option.getD_some] at this ⊢
      have h3 : (vs ++ Array.replicate k undef)[t]? = some vs[t] := by rw [Array.getElem?_append_left hv]; simp [hv]
      rw [Array.getD_eq_getD_getElem?, h3]
      exact this
    · rw [if_neg (by omega)]
      show RA π .bad _
      simp only [RA]
  glob := hG

theorem resOne_ok (hR : R π σ w) (hE : RE π env a) {r : ResultVar} {v : AV} (h : resOne cx env σ r = some v) :
    ∃ x, (match r with | .tmp t => pure (a.tmps.getD t undef) | .cell t ty => (do loadVar ty (← asAddr (a.tmps.getD t undef))) : Sem Value).run cx.P w = .ok x w ∧ RA π v x := by
  cases r with
  | tmp t => cases h; exact ⟨_, rfl, hE.tmp t⟩
  | cell t ty =>
    simp only [resOne] at h ⊢
    obtain ⟨y, h1, h2⟩ := load_ok hR h (hE.tmp t)
    refine ⟨y, ?_, h2⟩
    rw [← h1]
    have hv := hE.tmp t
    unfold loadA at h
    split at h
    · rename_i i o e
      rw [e] at hv
      simp only [RA] at hv
      obtain ⟨b, base, sz, _, hv⟩ := hv
      rw [hv]
      rfl
    · cases h

theorem resList_ok (hR : R π σ w) (hE : RE π env a) : ∀ {rs : List ResultVar} {vs : List AV}, resList cx env σ rs = some vs →
    ∃ xs, (rs.mapM fun | .tmp t => pure (a.tmps.getD t undef) | .cell t ty => (do loadVar ty (← asAddr (a.tmps.getD t undef))) : Sem (List Value)).run cx.P w = .ok xs w ∧ RT π vs xs
  | [], vs, h => by cases h; exact ⟨[], by simp, by simp [RT]⟩
  | r :: rs, vs, h => by
    simp only [resList] at h
    split at h
    · rename_i v us h1 h2
      cases h
      obtain ⟨x, k1, k2⟩ := resOne_ok hR hE h1
      obtain ⟨xs, k3, k4⟩ := resList_ok hR hE h2
      refine ⟨x :: xs, ?_, by simp only [RT]; exact ⟨k2, k4⟩⟩
      rw [List.mapM_cons]
      simp only [Sem.run_bind, k1, Result.andThen_ok, k3, Sem.run_pure]
    · cases h

theorem tup_ok {vs : List AV} {xs : List Value} (h : RT π vs xs) : RA π (tupOf vs) (if hx : xs.toArray.size = 1 then xs.toArray[0] else .tuple xs.toArray) := by
  match vs, xs, h with
  | [], xs, h =>
    have := h.nil
    subst this
    simp [tupOf, RA, RT]
  | [v], [], h => simp [RT] at h
  | [v], [x], h =>
    simp only [RT] at h
    simpa [tupOf] using h.1
  | [v], x :: y :: xs, h => simp [RT] at h
  | v :: u :: vs, [], h => simp [RT] at h
  | v :: u :: vs, [x], h => simp [RT] at h
  | v :: u :: vs, x :: y :: xs, h =>
    have e : tupOf (v :: u :: vs) = .tup (v :: u :: vs) := rfl
    rw [e]
    simp only [RA]
    refine ⟨(x :: y :: xs).toArray, ?_, by simpa using h⟩
    rw [dif_neg (by simp)]

theorem results_ok (hR : R π σ w) (hE : RE π env a) {fn : Func} {v : AV} {σ' : St} (h : finishR cx fn.results.toList env σ = some (v, σ')) :
    σ' = σ ∧ ∃ x, (results fn a.tmps).run cx.P w = .ok x w ∧ RA π v x := by
  unfold finishR at h
  split at h
  · rename_i vs hvs
    cases h
    obtain ⟨xs, h1, h2⟩ := resList_ok hR hE hvs
    refine ⟨rfl, _, ?_, tup_ok h2⟩
    unfold results
    rw [Sem.run_bind, Array.mapM_eq_mapM_toList]
    simp only [Sem.run_map]
    exact (congrArg (fun r : Result (List Value) => (r.andThen fun l w' => Result.ok l.toArray w').andThen fun b w' => Sem.run cx.P (pure (if h : b.size = 1 then b[0] else Value.tuple b)) w') h1).trans (by simp only [Result.andThen_ok, Sem.run_pure])
  · cases h

/-- a table of functions that stand for their bodies -/
def TabOk (cx : Cx) : Prop := ∀ f s, cx.tab f = some s → ∀ args σ v σ', s args σ = some (v, σ') → ∀ π w (vs : Array Value), R π σ w → GlobOk cx π → RT π args vs.toList →
  (∃ fn, cx.P.funcs[f]? = some fn ∧ fn.body ≠ none) ∧ Calls cx.P f vs w (Post cx.P π σ w v σ')

theorem callN_ok (hx : ExtOk cx) (ht : TabOk cx) (hm : cx.P.follows .mixedOrders = true) : ∀ (n : Nat), CallOk cx (callN cx n)
  | 0 => fun f args σ v σ' h => by cases h
  | n + 1 => by
    intro f args σ v σ' h π w vs hR hG hargs
    have hc := callN_ok hx ht hm n
    have h' : callStep cx (callN cx n) f args σ = some (v, σ') := h
    unfold callStep at h'
    split at h'
    · rename_i s hs
      exact ht f s hs args σ v σ' h' π w vs hR hG hargs
    · unfold enterF at h'
      split at h'
      · rename_i fn hfn
        split at h'
        · rename_i c hb
          cases hok : (Nat.ble (lenN args) fn.ntmps && codeOk fn.ntmps c) with
          | false => rw [hok] at h'; cases h'
          | true =>
            rw [hok] at h'
            simp only [cond_true] at h'
            simp only [Bool.and_eq_true] at hok
            have hl : lenN args ≤ fn.ntmps := by have := hok.1; rwa [Nat.ble_eq] at this
            rw [lenN_eq, hargs.length] at hl
            refine ⟨⟨fn, hfn, by rw [hb]; exact fun e => by cases e⟩, calls_of_wp hfn hb ?_⟩
            have hE : RE π ⟨argsEnv args 0 .leaf, cx.g⟩ { tmps := vs ++ Array.replicate (fn.ntmps - vs.size) undef, defers := [] } := args_ok hG hargs _
            have hfit : Fit cx fn.ntmps π σ w ⟨argsEnv args 0 .leaf, cx.g⟩ σ { tmps := vs ++ Array.replicate (fn.ntmps - vs.size) undef, defers := [] } w :=
              ⟨⟨π, hR, hE, Go.refl _ _ _⟩, by have : vs.size ≤ fn.ntmps := by simpa using hl
                                              simp; omega, rfl, rfl⟩
            have hne : comp c cx (callN cx n) ⟨argsEnv args 0 .leaf, cx.g⟩ σ ≠ .fail := fun e => by rw [e] at h'; cases h'
            refine comp_wp hx hc hm c hok.2 _ _ σ _ w hfit hne fun e a' w' hq => ?_
            revert hq h'
            generalize comp c cx (callN cx n) ⟨argsEnv args 0 .leaf, cx.g⟩ σ = r
            intro h' hq
            have fin : ∀ env' σ1, Fit cx fn.ntmps π σ w env' σ1 a' w' → finishR cx fn.results.toList env' σ1 = some (v, σ') → a'.defers = [] ∧ ∃ x, (results fn a'.tmps).run cx.P w' = .ok x w' ∧ Post cx.P π σ w v σ' (.returned x) w' := by
              rintro env' σ1 ⟨⟨π', h1, h2, h3⟩, _, h4, _⟩ h5
              obtain ⟨rfl, x, h6, h7⟩ := results_ok h1 h2 h5
              exact ⟨h4, x, h6, π', x, rfl, h1, h7, h3⟩
            cases r with
            | fail => exact hq.elim
            | nrm env' σ1 => obtain ⟨rfl, hq⟩ := hq; exact fin _ _ hq h'
            | exit id env' σ1 => cases h'
            | ret env' σ1 => obtain ⟨rfl, hq⟩ := hq; exact fin _ _ hq h'
        · cases h'
      · cases h'
end Go.Run
