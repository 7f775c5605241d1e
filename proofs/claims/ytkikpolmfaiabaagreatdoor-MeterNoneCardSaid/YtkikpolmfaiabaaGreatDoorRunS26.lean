import Derived.Test.YtkikpolmfaiabaaGreatDoorRunD5
namespace Go.Run
variable {cx : Cx} {π : Pl} {σ : St} {w : World} {env : Env} {a : Act} {call : CallF}

def lst (listed : Array Bool) : Nat → Bool := fun i => listed.getD i false

theorem lst_set {listed : Array Bool} {j : Nat} (h : j < listed.size) : lst (listed.setIfInBounds j true) = plus (lst listed) j := by
  funext i
  unfold lst plus
  by_cases e : i = j
  · subst e; simp [h]
  · simp [e, Array.getElem?_setIfInBounds_ne (Ne.symm e)]

theorem countP_le {α : Type} {p q : α → Bool} : ∀ (l : List α), (∀ x ∈ l, p x = true → q x = true) → l.countP p ≤ l.countP q :=
  fun l h => List.countP_mono_left h
theorem countP_lt {α : Type} {p q : α → Bool} {l : List α} (h : ∀ x ∈ l, p x = true → q x = true) {y : α} (hy : y ∈ l) (hp : p y = false) (hq : q y = true) : l.countP p < l.countP q := by
  obtain ⟨A, B, rfl⟩ := List.append_of_mem hy
  rw [List.countP_append, List.countP_append, List.countP_cons, List.countP_cons]
  have h1 := countP_le (p := p) (q := q) A fun x hx => h x (by simp [hx])
  have h2 := countP_le (p := p) (q := q) B fun x hx => h x (by simp [hx])
  simp only [hp, hq, if_true, Bool.false_eq_true, if_false]
  omega

theorem first_out {D : Nat → Bool} : ∀ (T : List Ev), (∀ e ∈ T, D e.i = true) ∨ ∃ T1 ev T2, T = T1 ++ ev :: T2 ∧ (∀ e ∈ T1, D e.i = true) ∧ D ev.i = false
  | [] => .inl fun e he => by cases he
  | e :: T => by
    cases hD : D e.i with
    | false => exact .inr ⟨[], e, T, rfl, (fun x hx => by simp at hx), hD⟩
    | true =>
      rcases first_out (D := D) T with h | ⟨T1, ev, T2, rfl, h1, h2⟩
      · refine .inl fun x hx => ?_
        cases hx with
        | head => exact hD
        | tail _ hx => exact h x hx
      · refine .inr ⟨e :: T1, ev, T2, rfl, fun x hx => ?_, h2⟩
        cases hx with
        | head => exact hD
        | tail _ hx => exact h1 x hx

theorem draw_wp {n : Nat} {ops : Array Oper} {Q : Exit → Act → World → Prop} {π0 : Pl} {σ0 : St} {w0 : World} (hx : ExtOk cx) (hc : CallOk cx call) (hd : allB (dstOk n) ops.toList = true)
    (hfit : Fit cx n π0 σ0 w0 env σ a w) (hr : drawR ops.toList cx call env σ ≠ .fail)
    (hk : ∀ env' σ' a' w', Fit cx n π0 σ0 w0 env' σ' a' w' → drawR ops.toList cx call env σ = .nrm env' σ' → Q .normal a' w') :
    wpAny cx.P .any ops Q ops.size (Array.replicate ops.size false) a { w with drawn := w.drawn + 1 } := by
  obtain ⟨⟨π, hR, hE, hGo⟩, hs, hf, hg⟩ := hfit
  have hR : R π σ { w with drawn := w.drawn + 1 } := hR.heap rfl
  have hGo : Go π0 σ0 w0 π σ { w with drawn := w.drawn + 1 } := hGo.trans (Go.heap rfl ⟨rfl, rfl, rfl⟩)
  generalize ({ w with drawn := w.drawn + 1 } : World) = w1 at hR hGo
  generalize hres : (bif anyB (fun o => isNew o.op) ops.toList then lenN ops.toList else 0) = res
  let r : Rg := { cx := cx, call := call, all := ops.toList, ms := befores [] ops.toList, base := σ.next, res := res, env0 := env, σ0 := ⟨Nat.add σ.next res, σ.m⟩, n := lenN ops.toList }
  have e : drawR ops.toList cx call env σ = (bif drawOk ops.toList r.ms (numbered 0 ops.toList) then
      drawList r.all r.ms r.base r.res (Nat.sub (Nat.pow 2 (lenN ops.toList)) 1) (late r.ms (keepB (fun p => isEff p.2.op) (numbered 0 ops.toList)) (numbered 0 ops.toList)) r.cx r.call 0 [(r.n, r.σ0)] env r.σ0 else .fail) := by
    show drawGo _ _ _ _ _ _ _ _ _ _ = _
    rw [hres]; rfl
  cases hok : drawOk ops.toList r.ms (numbered 0 ops.toList) with
  | false => rw [e, hok] at hr; exact absurd rfl hr
  | true =>
    rw [hok] at e
    simp only [cond_true] at e
    have hfacts := drawOk_ok hok
    have ht0 : Traced r [] 0 [(r.n, r.σ0)] env r.σ0 :=
      { ok := fun T1 ev T2 h => by simp at h
        done := fun i => by rw [bit_eq]; simp
        hist := rfl, g := hg, val := fun t => rfl, st := rfl }
    have hl : ∀ p ∈ late r.ms (keepB (fun p => isEff p.2.op) (numbered 0 ops.toList)) (numbered 0 ops.toList), r.all[p.1]? = some p.2 := fun p hp => by
      have : p ∈ numbered 0 ops.toList := (late_mem hp).elim keepB_mem id
      have := (numbered_at ops.toList 0 p this).2
      show ops.toList[p.1]? = some p.2
      simpa using this
    obtain ⟨T, done, H, env', σ', hT, hdone, hres2⟩ := draw_trace r _ _ hl [] 0 _ env r.σ0 ht0 (by rw [← e]; exact hr)
    rw [← e] at hres2
    have hN : lenN ops.toList = ops.size := by rw [lenN_eq]; simp
    have hfull : ∀ i, i < ops.size → i ∈ T.map (·.i) := fun i hi => by
      refine (hT.done i).1 ?_
      rw [hdone, bit_eq]
      show Nat.testBit (2 ^ (lenN ops.toList) - 1) i = true
      rw [hN, Nat.testBit_two_pow_sub_one]
      simpa using hi
    -- all has come up
    have fin : ∀ (D : Nat → Bool) (a : Act) (w : World), At r n π σ w1 T D a w → (∀ e ∈ T, D e.i = true) → Q .normal a w := by
      intro D a w hat hall
      obtain ⟨π', env2, k1, k2, k3, k4, k5, _, k6, _⟩ := hat.st
      have e1 : stD D T r.σ0 = stD top T r.σ0 := foldl_same T (fun e he b => by simp only [stStep, hall e he, top]) _
      have e2 : xsD D r.base T = xsD top r.base T := foldl_same T (fun e he b => by simp only [xsStep, hall e he, top]) _
      have e3 : ∀ v0 t, valD D T v0 t = valD top T v0 t := fun v0 t => foldl_same T (fun e he b => by simp only [valStep, hall e he, top]) _
      rw [e1] at k1 k5 k6
      rw [e2] at k6
      obtain ⟨j1, _, _⟩ := k6.ins k1
      have j2 := k6.go k1 k5
      have ecur : insAll (stD top T r.σ0) (xsD top r.base T) = σ' := hT.st.symm
      rw [ecur] at j1 j2
      refine hk env' σ' a w ⟨⟨π', j1, ⟨fun t => ?_, ?_⟩, hGo.trans j2⟩, hat.size, hat.defers, hT.g⟩ hres2
      · have := k2.tmp t
        rw [k4 t, e3] at this
        rw [hT.val t]
        exact this
      · rw [hT.g, ← k3]; exact k2.glob
    have main : ∀ (fuel : Nat) (listed : Array Bool) (a : Act) (w : World), listed.size = ops.size → At r n π σ w1 T (lst listed) a w → (List.range ops.size).countP (fun i => !lst listed i) ≤ fuel →
        wpAny cx.P .any ops Q fuel listed a w := by
      have stop : ∀ (listed : Array Bool) (a : Act) (w : World), listed.size = ops.size → At r n π σ w1 T (lst listed) a w → Region.ready .any ops listed = [] → Q .normal a w := by
        intro listed a w hsz hat hrd
        rcases first_out (D := lst listed) T with h | ⟨T1, ev, T2, hTs, h1, h2⟩
        · exact fin _ a w hat h
        · exfalso
          have hev := hT.ok T1 ev T2 hTs
          have hat' : ops[ev.i]? = some ev.o := by have h0 : ops.toList[ev.i]? = some ev.o := hev.at_; simpa using h0
          have hlt : ev.i < ops.size := (Array.getElem?_eq_some_iff.1 hat').1
          have : ev.i ∈ Region.ready .any ops listed := by
            rw [mem_ready]
            refine ⟨?_, ev.o, hat', fun x hx hb => ?_⟩
            · have : lst listed ev.i = false := h2
              unfold lst at this
              simp [hsz, hlt] at this ⊢
              exact this
            · have hb1 : bef r.ms x.on ev.i = true := (hfacts.mask ev.i ev.o x.on hev.at_).2 ⟨x, by simpa using hx, hb, .inl rfl⟩
              obtain ⟨y, hy, hye⟩ := List.mem_map.1 (hev.pre _ hb1)
              have := h1 y hy
              rw [hye] at this
              exact this
          rw [hrd] at this; cases this
      intro fuel
      induction fuel with
      | zero =>
        intro listed a w hsz hat hcnt
        have h0 : ∀ i, i < ops.size → lst listed i = true := fun i hi => by
          have := List.countP_eq_zero.1 (Nat.le_zero.1 hcnt) i (List.mem_range.2 hi)
          simpa using this
        have hrd : Region.ready .any ops listed = [] := by
          cases hrr : Region.ready .any ops listed with
          | nil => rfl
          | cons j l =>
            have hj : j ∈ Region.ready .any ops listed := by rw [hrr]; exact List.mem_cons_self ..
            obtain ⟨k1, o, k2, _⟩ := mem_ready.1 hj
            have hlt : j < ops.size := (Array.getElem?_eq_some_iff.1 k2).1
            have := h0 j hlt
            unfold lst at this
            simp [hsz, hlt] at k1 this
            rw [k1] at this; cases this
        exact ⟨hrd, stop listed a w hsz hat hrd⟩
      | succ fuel ih =>
        intro listed a w hsz hat hcnt
        refine ⟨stop listed a w hsz hat, fun j hj => ?_⟩
        obtain ⟨k1, o, k2, k3⟩ := mem_ready.1 hj
        have hlt : j < ops.size := (Array.getElem?_eq_some_iff.1 k2).1
        have hnew : lst listed j = false := by
          unfold lst
          simp [hsz, hlt] at k1 ⊢
          exact k1
        obtain ⟨ev, hev, rfl⟩ := List.mem_map.1 (hfull j hlt)
        obtain ⟨T1, T2, hTs⟩ := List.append_of_mem hev
        have hevOk := hT.ok T1 ev T2 hTs
        have hoo : o = ev.o := by
          have : ops[ev.i]? = some ev.o := by have h0 : ops.toList[ev.i]? = some ev.o := hevOk.at_; simpa using h0
          rw [k2] at this; cases this; rfl
        subst hoo
        have hpre : ∀ i, bef r.ms i ev.i = true → lst listed i = true := fun i hb => by
          obtain ⟨x, hx1, hx2, hx3⟩ := (hfacts.mask ev.i ev.o i hevOk.at_).1 hb
          have hon : lst listed x.on = true := k3 x (by simpa using hx1) hx2
          rcases hx3 with rfl | hx3
          · exact hon
          · exact hat.down _ hon _ hx3
        have hsp : Split r (lst listed) T1 ev T2 := split_of hT.ok hat.down hTs hnew hpre
        have hat' : At r n π σ w1 (T1 ++ ev :: T2) (lst listed) a w := by rw [← hTs]; exact hat
        refine at_step (r := r) rfl hx hc hfacts rfl rfl hd hsp hat' k2 fun a' w' hat2 => ?_
        refine ih _ a' w' (by simpa using hsz) (by rw [lst_set (by omega), hTs]; exact hat2) ?_
        have : (List.range ops.size).countP (fun i => !lst (listed.setIfInBounds ev.i true) i) < (List.range ops.size).countP (fun i => !lst listed i) := by
          refine countP_lt (fun i _ hi => ?_) (List.mem_range.2 hlt) ?_ ?_
          · rw [lst_set (by omega)] at hi
            unfold plus at hi
            split at hi
            · cases hi
            · exact hi
          · rw [lst_set (by omega), plus_eq]; rfl
          · rw [hnew]; rfl
        omega
    have hD0 : lst (Array.replicate ops.size false) = fun _ => false := by
      funext i
      unfold lst
      by_cases hlt : i < ops.size <;> simp [hlt]
    have e1 : stD (fun _ => false) T r.σ0 = r.σ0 := foldl_id T (fun ev he b => by unfold stStep; split <;> simp) _
    have e2 : xsD (fun _ => false) r.base T = [] := foldl_id T (fun ev he b => by unfold xsStep; split <;> simp) _
    have e3 : ∀ v0 t, valD (fun _ => false) T v0 t = v0 := fun v0 t => foldl_id T (fun ev he b => by unfold valStep; simp) _
    have hnext : r.σ0.next = σ.next + res := rfl
    refine main ops.size _ a w1 (by simp) ?_ ?_
    · rw [hD0]
      refine ⟨fun j hj => by simp at hj, ⟨π, env, ?_, hE, hg, fun t => by rw [e3], ?_, ?_, ?_, fun i _ _ => hR.next_none (Nat.le_add_right _ _)⟩, hs, hf⟩
      · rw [e1]
        exact ⟨hR.blk, hR.inj, fun i x hi => by have := hR.lt i x hi; omega⟩
      · rw [e1]
        exact ⟨fun _ _ => rfl, by omega, Nat.le_refl _, fun _ _ _ => rfl, fun b _ ho => ho, Same.refl _⟩
      · rw [e1]; exact Nat.le_refl _
      · rw [e2]; exact ⟨fun p hp => by simp at hp, fun p hp => by simp at hp⟩
    · have := List.countP_le_length (p := fun i => !lst (Array.replicate ops.size false) i) (l := List.range ops.size)
      simpa using this
end Go.Run
