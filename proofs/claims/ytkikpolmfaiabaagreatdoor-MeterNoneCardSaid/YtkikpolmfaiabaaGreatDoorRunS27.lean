import Derived.Test.YtkikpolmfaiabaaGreatDoorRunS26
namespace Go.Run
variable {cx : Cx} {π : Pl} {σ : St} {w : World} {env : Env} {a : Act} {call : CallF}

theorem least (p : Nat → Prop) (h : ∃ m, p m) : ∃ m, p m ∧ ∀ k, p k → m ≤ k := by
  obtain ⟨m, hm⟩ := h
  induction m using Nat.strongRecOn with
  | _ m ih =>
    by_cases hk : ∃ k, k < m ∧ p k
    · obtain ⟨k, hlt, hp⟩ := hk; exact ih k hlt hp
    · refine ⟨m, hm, fun k hp => ?_⟩
      rcases Nat.lt_or_ge k m with h | h
      · exact absurd ⟨k, h, hp⟩ hk
      · exact h

theorem wp_loop_fuel {P : Program} {c : Code} {Q : Exit → Act → World → Prop} (I : Nat → Act → World → Prop) {n : Nat} (h0 : I n a w)
    (round : ∀ m a w, I m a w → c.wp P (Exit.then (fun a' w' => ∃ m', m' < m ∧ I m' a' w') Q) a w) : (Code.loop c).wp P Q a w := by
  classical
  refine wp_loop (fun a w => ∃ m, I m a w) (fun a w => if h : ∃ m, I m a w then Classical.choose (least _ h) else 0) ⟨n, h0⟩ fun a w h => ?_
  have hl := Classical.choose_spec (least _ h)
  refine wp_mono (round _ a w hl.1) fun e a' w' he => ?_
  cases e with
  | normal =>
    obtain ⟨m', hlt, hI⟩ := he
    have h' : ∃ m, I m a' w' := ⟨m', hI⟩
    refine ⟨h', ?_⟩
    simp only [h, h', dif_pos]
    exact Nat.lt_of_le_of_lt ((Classical.choose_spec (least _ h')).2 m' hI) hlt
  | _ => exact he

theorem thenR_fail {b : Env → St → Res} {r : Res} (h : thenR b r ≠ .fail) : r ≠ .fail := fun e => h (by rw [e]; rfl)
theorem blockR_fail {id : Nat} {r : Res} (h : blockR id r ≠ .fail) : r ≠ .fail := fun e => h (by rw [e]; rfl)

theorem comp_wp {n : Nat} {π0 : Pl} {σ0 : St} {w0 : World} (hx : ExtOk cx) (hc : CallOk cx call) (hm : cx.P.follows .mixedOrders = true) : ∀ (c : Code), codeOk n c = true → ∀ (Q : Exit → Act → World → Prop) (env : Env) (σ : St) (a : Act) (w : World),
    Fit cx n π0 σ0 w0 env σ a w → comp c cx call env σ ≠ .fail → (∀ e a' w', Fits cx n π0 σ0 w0 (comp c cx call env σ) e a' w' → Q e a' w') → c.wp cx.P Q a w := by
  intro c
  induction c with
  | skip => exact fun _ Q env σ a w hfit _ hQ => wp_skip (hQ _ _ _ ⟨rfl, hfit⟩)
  | region id ops draw =>
    intro hok Q env σ a w hfit hr hQ
    have hd : allB (dstOk n) ops.toList = true := hok
    cases draw with
    | false =>
      have e : comp (.region id ops false) cx call env σ = seqR ops.toList ops.toList cx call env σ := rfl
      rw [e] at hr hQ
      refine wp_region ?_
      have := seq_wp (Q := Q) hx hc hd ops.toList 0 rfl env σ a w hfit hr fun env' σ' a' w' hf he => hQ _ _ _ (by rw [he]; exact ⟨rfl, hf⟩)
      rw [List.range_eq_range']
      simpa using this
    | true =>
      have e : comp (.region id ops true) cx call env σ = drawR ops.toList cx call env σ := rfl
      rw [e] at hr hQ
      refine wp_region_any hm ?_
      exact draw_wp hx hc hd hfit hr fun env' σ' a' w' hf he => hQ _ _ _ (by rw [he]; exact ⟨rfl, hf⟩)
  | seq x y ihx ihy =>
    intro hok Q env σ a w hfit hr hQ
    have hok' : codeOk n x = true ∧ codeOk n y = true := by
      have : (codeOk n x && codeOk n y) = true := hok
      simpa using this
    have e : comp (.seq x y) cx call env σ = thenR (comp y cx call) (comp x cx call env σ) := rfl
    rw [e] at hr hQ
    refine wp_seq (ihx hok'.1 _ env σ a w hfit (thenR_fail hr) fun e1 a1 w1 h1 => ?_)
    revert h1 hr hQ
    generalize comp x cx call env σ = r
    intro hr hQ h1
    cases r with
    | fail => exact h1.elim
    | nrm env1 σ1 =>
      obtain ⟨rfl, h1⟩ := h1
      exact ihy hok'.2 Q env1 σ1 a1 w1 h1 hr hQ
    | exit id env1 σ1 => obtain ⟨rfl, h1⟩ := h1; exact hQ _ _ _ ⟨rfl, h1⟩
    | ret env1 σ1 => obtain ⟨rfl, h1⟩ := h1; exact hQ _ _ _ ⟨rfl, h1⟩
  | cond c x y ihx ihy =>
    intro hok Q env σ a w hfit hr hQ
    have hok' : codeOk n x = true ∧ codeOk n y = true := by
      have : (codeOk n x && codeOk n y) = true := hok
      simpa using this
    have e : comp (.cond c x y) cx call env σ = condR (evA c env) (comp x cx call env σ) (comp y cx call env σ) := rfl
    rw [e] at hr hQ
    obtain ⟨⟨π, hR, hE, hGo⟩, hs⟩ := id hfit
    have hv := evA_ok hE c
    revert hr hQ hv
    generalize evA c env = v
    intro hr hQ hv
    unfold condR at hr hQ
    split at hr
    · rename_i t
      simp only [RA] at hv
      have hv' : a.eval c = .bool t := hv
      refine wp_cond hv' ?_
      cases t with
      | true => exact ihx hok'.1 Q env σ a w hfit hr hQ
      | false => exact ihy hok'.2 Q env σ a w hfit hr hQ
    · exact absurd rfl hr
  | block id x ih =>
    intro hok Q env σ a w hfit hr hQ
    have e : comp (.block id x) cx call env σ = blockR id (comp x cx call env σ) := rfl
    rw [e] at hr hQ
    refine wp_block (ih hok _ env σ a w hfit (blockR_fail hr) fun e1 a1 w1 h1 => ?_)
    revert h1 hr hQ
    generalize comp x cx call env σ = r
    intro hr hQ h1
    cases r with
    | fail => exact h1.elim
    | nrm env1 σ1 => obtain ⟨rfl, h1⟩ := h1; exact hQ _ _ _ ⟨rfl, h1⟩
    | exit j env1 σ1 =>
      obtain ⟨rfl, h1⟩ := h1
      simp only [Exit.inBlock]
      simp only [blockR] at hQ
      by_cases hj : j = id
      · have hb : Nat.beq j id = true := by subst hj; exact Nat.beq_refl j
        rw [if_pos hj]
        rw [hb] at hQ
        exact hQ _ _ _ ⟨rfl, h1⟩
      · have hb : Nat.beq j id = false := by
          cases hb : Nat.beq j id with
          | false => rfl
          | true => exact absurd (Nat.eq_of_beq_eq_true hb) hj
        rw [if_neg hj]
        rw [hb] at hQ
        exact hQ _ _ _ ⟨rfl, h1⟩
    | ret env1 σ1 => obtain ⟨rfl, h1⟩ := h1; exact hQ _ _ _ ⟨rfl, h1⟩
  | loop x ih =>
    intro hok Q env σ a w hfit hr hQ
    have e : comp (.loop x) cx call env σ = loopN (comp x cx call) cx.fuel env σ := rfl
    rw [e] at hr hQ
    refine wp_loop_fuel (fun m a w => ∃ env1 σ1, Fit cx n π0 σ0 w0 env1 σ1 a w ∧ loopN (comp x cx call) m env1 σ1 = loopN (comp x cx call) cx.fuel env σ) ⟨env, σ, hfit, rfl⟩ ?_
    rintro m a w ⟨env1, σ1, hf1, h1⟩
    cases m with
    | zero => exact absurd h1.symm hr
    | succ m =>
      have h1' : thenR (fun env σ => loopN (comp x cx call) m env σ) (comp x cx call env1 σ1) = loopN (comp x cx call) cx.fuel env σ := h1
      have hx1 : comp x cx call env1 σ1 ≠ .fail := fun e => hr (by rw [← h1', e]; rfl)
      refine ih hok _ env1 σ1 a w hf1 hx1 fun e2 a2 w2 h2 => ?_
      revert h2 h1'
      generalize comp x cx call env1 σ1 = r
      intro h1' h2
      cases r with
      | fail => exact h2.elim
      | nrm env2 σ2 => obtain ⟨rfl, h2⟩ := h2; exact ⟨m, Nat.lt_succ_self _, env2, σ2, h2, h1'⟩
      | exit id env2 σ2 => obtain ⟨rfl, h2⟩ := h2; exact hQ _ _ _ (by rw [← h1']; exact ⟨rfl, h2⟩)
      | ret env2 σ2 => obtain ⟨rfl, h2⟩ := h2; exact hQ _ _ _ (by rw [← h1']; exact ⟨rfl, h2⟩)
  | rangeFunc f ps x y _ _ => exact fun _ Q env σ a w hfit hr hQ => absurd rfl hr
  | exit id => exact fun _ Q env σ a w hfit _ hQ => wp_exit (hQ _ _ _ ⟨rfl, hfit⟩)
  | scope x _ => exact fun _ Q env σ a w hfit hr hQ => absurd rfl hr
  | label l => exact fun _ Q env σ a w hfit _ hQ => wp_label (hQ _ _ _ ⟨rfl, hfit⟩)
  | goto l => exact fun _ Q env σ a w hfit hr hQ => absurd rfl hr
  | ret => exact fun _ Q env σ a w hfit _ hQ => wp_ret (hQ _ _ _ ⟨rfl, hfit⟩)
  | refuse s => exact fun _ Q env σ a w hfit hr hQ => absurd rfl hr
end Go.Run
