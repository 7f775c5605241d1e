import Derived.Test.YtkikpolmfaiabaaGreatDoorRunS9
namespace Go.Run
variable {cx : Cx} {π : Pl} {σ : St} {w : World} {env : Env} {a : Act}

theorem sliceBound_run (e : RE π env a) {v : Operand} {n y : Nat} (h : natOf (evA v env) = some n) (hn : n ≤ y) (code : BoundsCode) : (Instr.sliceBound (a.eval v) y code).run cx.P w = .ok n w := by
  obtain ⟨k, hk⟩ := natOf_ok h (evA_ok e v)
  have h1 : (0 : Int) ≤ (n : Int) ∧ (n : Int) ≤ y := by omega
  simp [Instr.sliceBound, hk, asIntOf]
  omega

theorem bounds_two (e : RE π env a) {s : Bool} {len cap l h : Nat} {lo hi : Option Operand} (hl : boundA lo 0 env = some l) (hh : boundA hi len env = some h) (hlh : l ≤ h) (hc : h ≤ cap) :
    (Instr.sliceBounds s len cap (lo.map a.eval) (hi.map a.eval) none).run cx.P w = .ok (l, h, cap) w := by
  cases lo with
  | none =>
    cases hl
    cases hi with
    | none => cases hh; simp [Instr.sliceBounds]
    | some hi =>
      have := sliceBound_run (cx := cx) (w := w) e (v := hi) hh hc (if s then .sliceAcap else .sliceAlen)
      simp [Instr.sliceBounds, this]
  | some lo =>
    have h1 := sliceBound_run (cx := cx) (w := w) e (v := lo) hl hlh .sliceB
    cases hi with
    | none => cases hh; simp [Instr.sliceBounds, h1]
    | some hi =>
      have := sliceBound_run (cx := cx) (w := w) e (v := hi) hh hc (if s then .sliceAcap else .sliceAlen)
      simp [Instr.sliceBounds, this, h1]
theorem bounds_three (e : RE π env a) {s : Bool} {len cap l h m : Nat} {lo : Option Operand} {hi mx : Operand} (hl : boundA lo 0 env = some l) (hh : natOf (evA hi env) = some h) (hm : natOf (evA mx env) = some m) (hlh : l ≤ h) (hhm : h ≤ m) (hc : m ≤ cap) :
    (Instr.sliceBounds s len cap (lo.map a.eval) (some (a.eval hi)) (some (a.eval mx))).run cx.P w = .ok (l, h, m) w := by
  have h1 := sliceBound_run (cx := cx) (w := w) e (v := mx) hm hc (if s then .slice3Acap else .slice3Alen)
  have h2 := sliceBound_run (cx := cx) (w := w) e (v := hi) hh hhm .slice3B
  cases lo with
  | none => cases hl; simp [Instr.sliceBounds, h1, h2]
  | some lo =>
    have h3 := sliceBound_run (cx := cx) (w := w) e (v := lo) hl hlh .slice3C
    simp [Instr.sliceBounds, h1, h2, h3]

theorem str_slice {s : ByteArray} {l h : Nat} {b : List UInt8} (hb : takeN (h - l) (dropN l (bytesOf s)) = some b) : s.extract l h = ofBytes b := by
  rw [dropN_eq] at hb
  obtain ⟨rfl, _⟩ := takeN_eq _ _ _ hb
  apply ByteArray.ext
  rw [ByteArray.data_extract]
  apply Array.toList_inj.1
  simp [ofBytes, bytesOf, List.take_drop]

/-- an index that is not behind the end of what is known -/
theorem cap_least {p : Nat × Nat} {c : Cap} {sz n : Nat} {x : Bool} (hR : R π σ w) (h : capOf p c sz σ = some (n, x)) {len b base bs ad cp : Nat} (hp : π p.1 = some (b, base, bs)) (hc : CapOk c p.2 len b base bs ad cp) :
    n ≤ cp ∧ (x = true → n = cp) := by
  cases c with
  | ex c => simp [capOf] at h; obtain ⟨rfl, rfl⟩ := h; exact ⟨by have := hc.1; omega, fun _ => hc.1.symm⟩
  | to z =>
    simp only [capOf, beq_eq] at h
    by_cases hz : z = sz
    · rw [decide_eq_true hz] at h
      simp only [cond_true] at h
      subst hz
      split at h
      · rename_i l e ex hi
        cases h
        obtain ⟨x', hx', hb⟩ := hR.blk p.1 _ hi
        rw [hp] at hx'; cases hx'
        obtain ⟨cs, frz, h1, h2, h3, h4, _⟩ := hb
        obtain ⟨c1, c2, c3, c4⟩ := hc
        rw [lenN_eq]
        simp only at h2 h3 h4
        have key : Nat.div (Nat.sub l.length p.2) z = (l.length - p.2) / z := rfl
        rw [key]
        constructor
        · have : (l.length - p.2) / z * z ≤ l.length - p.2 := Nat.div_mul_le_self _ _
          have h5 : (l.length - p.2) / z * z ≤ cp * z := by omega
          exact Nat.le_of_mul_le_mul_right h5 c1
        · intro hx
          obtain ⟨rfl, hl⟩ := h4 hx
          have : l.length - p.2 = cp * z := by omega
          rw [this, Nat.mul_div_cancel _ c1]
      · cases h
    · rw [decide_eq_false hz] at h; cases h

theorem slV_ok {P : Program} {s : Sem Value} {p : Nat × Nat} {l : Nat} {c : Cap} {b base bs ad cp : Nat} (hp : π p.1 = some (b, base, bs)) (h : s.run P w = .ok (.slice (some ⟨b, ad, none⟩) l cp) w) (hl : l ≤ cp) (hc : CapOk c p.2 l b base bs ad cp) :
    Yields P π σ w s (slV p l c) := yields_val h (by simp only [RA]; exact ⟨b, base, bs, ad, cp, hp, rfl, hl, hc⟩)

theorem add_mid' (b o j : Nat) : (⟨b, o, none⟩ : Addr).add j = ⟨b, o + j, none⟩ := Addr.add_mid b o j

theorem slice_two_run (e : RE π env a) {t el : TypeId} {n len cp l h : Nat} {ad b : Nat} {lo hi : Option Operand} (hu : und cx t = some (.slice el)) (hn : size cx el = some n) (hl : boundA lo 0 env = some l) (hh : boundA hi len env = some h) (hlh : l ≤ h) (hc : h ≤ cp) :
    (Instr.sliceAt t (.slice (some ⟨b, ad, none⟩) len cp) (lo.map a.eval) (hi.map a.eval) none).run cx.P w = .ok (.slice (some ⟨b, if cp = l then ad else ad + l * n, none⟩) (h - l) (cp - l)) w := by
  have := bounds_two (cx := cx) (w := w) e (s := true) (len := len) hl hh hlh hc
  simp only [Instr.sliceAt, Sem.run_bind, und_run hu, Result.andThen_ok, Instr.slice, this, size_run hn]
  by_cases hcl : cp = l
  · simp [hcl]
  · simp [hcl, add_mid']

theorem slice_ok (hR : R π σ w) (e : RE π env a) {t : TypeId} {x : Operand} {lo hi mx : Option Operand} : Yields cx.P π σ w (Instr.sliceAt t (a.eval x) (lo.map a.eval) (hi.map a.eval) (mx.map a.eval)) (sliceA cx t (evA x env) lo hi mx env σ) := by
  have hx := evA_ok e x
  unfold sliceA
  split
  · rename_i s hu hxs
    rw [hxs] at hx
    rw [str_of hx]
    split
    · unfold sliceStr
      split
      · rename_i l h hl hh
        rw [ble_eq, ble_eq]
        by_cases h1 : l ≤ h
        · by_cases h2 : h ≤ lenN (bytesOf s)
          · rw [decide_eq_true h1, decide_eq_true h2]
            simp only [Bool.and_self, cond_true]
            split
            · rename_i b hb
              have hsz : lenN (bytesOf s) = s.size := by rw [lenN_eq]; rfl
              rw [hsz] at hh h2
              have := bounds_two (cx := cx) (w := w) e (s := false) (len := s.size) hl hh h1 h2
              refine yields_val (x := .string (s.extract l h)) ?_ (by rw [str_slice hb]; exact RA_str _)
              simp [Instr.sliceAt, und_run hu, Instr.slice, this]
            · trivial
          · rw [decide_eq_false h2]; simp; trivial
        · rw [decide_eq_false h1]; simp; trivial
      · trivial
    · trivial
  · rename_i el len c hu hxs
    rw [hxs] at hx
    simp only [RA] at hx
    obtain ⟨rfl, hX⟩ := hx
    rw [hX]
    split
    · rename_i n hl hh hn
      have := bounds_two (cx := cx) (w := w) e (s := true) (len := 0) (cap := 0) hl hh (Nat.le_refl _) (Nat.le_refl _)
      refine yields_val (x := .slice none 0 0) ?_ (by simp only [RA]; exact ⟨rfl, rfl⟩)
      simp [Instr.sliceAt, und_run hu, Instr.slice, this, size_run hn]
    · trivial
  · rename_i el p len c hu hxs
    rw [hxs] at hx
    simp only [RA] at hx
    obtain ⟨b, base, bs, ad, cp, hp, hX, hle, hc⟩ := hx
    rw [hX]
    split
    · rename_i n hn
      split
      · unfold sliceTwo
        split
        · rename_i l h hl hh
          rw [ble_eq]
          by_cases hlh : l ≤ h
          · rw [decide_eq_true hlh]
            simp only [cond_true]
            rw [ble_eq]
            by_cases hhl : h ≤ len
            · rw [decide_eq_true hhl]
              simp only [cond_true]
              have hrun := slice_two_run (cx := cx) (w := w) (b := b) (ad := ad) e hu hn hl hh hlh (Nat.le_trans hhl hle)
              split
              · rename_i z
                rw [beq_eq]
                by_cases hz : z = n + 1
                · rw [decide_eq_true hz]; subst hz
                  simp only [cond_true]
                  obtain ⟨c1, c2, c3, c4⟩ := hc
                  refine slV_ok (p := (p.1, Nat.add p.2 (Nat.mul l (n + 1)))) hp hrun (by show h - l ≤ cp - l; omega) ?_
                  have hlc : l * (n + 1) ≤ cp * (n + 1) := Nat.mul_le_mul_right _ (by omega)
                  refine ⟨c1, ?_, ?_, ?_⟩
                  · show base + (p.2 + l * (n + 1)) ≤ bs; omega
                  · show (cp - l) * (n + 1) = bs - (base + (p.2 + l * (n + 1)))
                    rw [Nat.sub_mul]; omega
                  · show (if cp = l then ad else ad + l * (n + 1)) = base + (p.2 + l * (n + 1)) ∨ cp - l = 0
                    by_cases hcl : cp = l
                    · right; omega
                    · rw [if_neg hcl]
                      rcases c4 with h | h
                      · left; omega
                      · omega
                · rw [decide_eq_false hz]; trivial
              · rename_i c
                obtain ⟨rfl, hc2⟩ := hc
                rw [beq_eq]
                by_cases hcl : l = cp
                · rw [decide_eq_true hcl]; subst hcl
                  simp only [if_true] at hrun
                  exact slV_ok hp hrun (by show h - l ≤ l - l; omega) ⟨by omega, .inr rfl⟩
                · rw [decide_eq_false hcl]
                  rw [if_neg (Ne.symm hcl)] at hrun
                  refine slV_ok (p := (p.1, Nat.add p.2 (Nat.mul l (n + 1)))) hp hrun (by show h - l ≤ cp - l; omega) ⟨rfl, ?_⟩
                  show ad + l * (n + 1) = base + (p.2 + l * (n + 1)) ∨ cp - l = 0
                  rcases hc2 with h | h
                  · left; omega
                  · right; omega
            · rw [decide_eq_false hhl]
              simp only [cond_false]
              split
              · rename_i c' x' hcap
                obtain ⟨hle', _⟩ := cap_least hR hcap hp hc
                rw [blt_eq, ble_eq]
                by_cases g1 : l < h
                · by_cases g2 : h ≤ c'
                  · rw [decide_eq_true g1, decide_eq_true g2]
                    simp only [Bool.and_self, cond_true]
                    have hrun := slice_two_run (cx := cx) (w := w) (b := b) (ad := ad) e hu hn hl hh hlh (Nat.le_trans g2 hle')
                    rw [if_neg (by omega)] at hrun
                    refine slV_ok (p := (p.1, Nat.add p.2 (Nat.mul l (n + 1)))) hp hrun (by show h - l ≤ cp - l; omega) ?_
                    cases c with
                    | ex c =>
                      refine ⟨by show cp - l = c - l; rw [hc.1], ?_⟩
                      show ad + l * (n + 1) = base + (p.2 + l * (n + 1)) ∨ c - l = 0
                      rcases hc.2 with h | h
                      · left; omega
                      · right; omega
                    | to z =>
                      have hz : z = n + 1 := by
                        simp only [capOf, beq_eq] at hcap
                        by_cases hz : z = n + 1
                        · exact hz
                        · rw [decide_eq_false hz] at hcap; cases hcap
                      subst hz
                      obtain ⟨c1, c2, c3, c4⟩ := hc
                      have hlc : l * (n + 1) ≤ cp * (n + 1) := Nat.mul_le_mul_right _ (by omega)
                      refine ⟨c1, ?_, ?_, ?_⟩
                      · show base + (p.2 + l * (n + 1)) ≤ bs; omega
                      · show (cp - l) * (n + 1) = bs - (base + (p.2 + l * (n + 1)))
                        rw [Nat.sub_mul]; omega
                      · show ad + l * (n + 1) = base + (p.2 + l * (n + 1)) ∨ cp - l = 0
                        rcases c4 with h | h
                        · left; omega
                        · omega
                  · rw [decide_eq_false g2]; simp; trivial
                · rw [decide_eq_false g1]; simp; trivial
              · trivial
          · rw [decide_eq_false hlh]; trivial
        · trivial
      · rename_i m
        split
        · rename_i h'
          unfold sliceThree
          split
          · rename_i l h m' hl hh hm
            split
            · rename_i c' x' hcap
              obtain ⟨hle', _⟩ := cap_least hR hcap hp hc
              simp only [ble_eq, beq_eq, blt_eq]
              by_cases g : l ≤ h ∧ h ≤ m' ∧ ¬ (m' = l ∧ 0 < l) ∧ (m' ≤ c' ∨ m' ≤ len)
              · obtain ⟨g1, g2, g3, g4⟩ := g
                have hb : (decide (l ≤ h) && decide (h ≤ m') && !(decide (m' = l) && decide (0 < l)) && (decide (m' ≤ c') || decide (m' ≤ len))) = true := by simp; omega
                rw [hb]
                simp only [cond_true]
                have hmc : m' ≤ cp := by omega
                have := bounds_three (cx := cx) (w := w) e (s := true) (len := len) hl hh hm g1 g2 hmc
                have hrun : (Instr.sliceAt t (.slice (some ⟨b, ad, none⟩) len cp) (lo.map a.eval) ((some h').map a.eval) ((some m).map a.eval)).run cx.P w = .ok (.slice (some ⟨b, ad + l * (n + 1), none⟩) (h - l) (m' - l)) w := by
                  simp only [Option.map_some, Instr.sliceAt, Sem.run_bind, und_run hu, Result.andThen_ok, Instr.slice, this, size_run hn]
                  by_cases hcl : m' = l
                  · have : l = 0 := by omega
                    subst this; subst hcl; simp
                  · simp [hcl, add_mid']
                have had : ad = base + p.2 ∨ cp = 0 := by
                  cases c with
                  | ex c => exact hc.2.imp id fun h => by rw [hc.1, h]
                  | to z => exact hc.2.2.2
                refine slV_ok (p := (p.1, Nat.add p.2 (Nat.mul l (n + 1)))) hp hrun (Nat.sub_le_sub_right g2 l) ⟨rfl, ?_⟩
                show ad + l * (n + 1) = base + (p.2 + l * (n + 1)) ∨ m' - l = 0
                rcases had with h | h
                · left; omega
                · right; omega
              · have hb : (decide (l ≤ h) && decide (h ≤ m') && !(decide (m' = l) && decide (0 < l)) && (decide (m' ≤ c') || decide (m' ≤ len))) = false := by
                  rw [Bool.eq_false_iff]; intro hh; apply g; simp at hh; omega
                rw [hb]; trivial
            · trivial
          · trivial
        · trivial
    · trivial
  · rename_i n el p hu hxs
    rw [hxs] at hx
    simp only [RA] at hx
    obtain ⟨b, base, bs, hp, hX⟩ := hx
    rw [hX]
    split
    · rename_i k l h hn hl hh
      rw [ble_eq, ble_eq]
      by_cases h1 : l ≤ h
      · by_cases h2 : h ≤ n
        · rw [decide_eq_true h1, decide_eq_true h2]
          simp only [Bool.and_self, cond_true]
          have hb := bounds_two (cx := cx) (w := w) e (s := false) (len := n) hl hh h1 h2
          have hrun : (Instr.sliceAt t (.pointer (some ⟨b, base + p.2, none⟩)) (lo.map a.eval) (hi.map a.eval) ((none : Option Operand).map a.eval)).run cx.P w = .ok (.slice (some ⟨b, if n = l then base + p.2 else base + p.2 + l * (k + 1), none⟩) (h - l) (n - l)) w := by
            simp only [Option.map_none, Instr.sliceAt, Sem.run_bind, und_run hu, Result.andThen_ok, Instr.sureAddr, Sem.run_pure, hb, size_run hn]
            by_cases hcl : n = l
            · simp [hcl]
            · simp [hcl, add_mid']
          rw [beq_eq]
          by_cases hcl : n = l
          · rw [decide_eq_true hcl]; subst hcl
            simp only [if_true] at hrun
            exact slV_ok hp hrun (Nat.sub_le_sub_right h2 n) ⟨by omega, .inr rfl⟩
          · rw [decide_eq_false hcl]
            rw [if_neg hcl] at hrun
            exact slV_ok (p := (p.1, Nat.add p.2 (Nat.mul l (k + 1)))) hp hrun (Nat.sub_le_sub_right h2 l) ⟨rfl, .inl (by show base + p.2 + l * (k + 1) = base + (p.2 + l * (k + 1)); omega)⟩
        · rw [decide_eq_false h2]; simp; trivial
      · rw [decide_eq_false h1]; simp; trivial
    · trivial
  · trivial
end Go.Run
