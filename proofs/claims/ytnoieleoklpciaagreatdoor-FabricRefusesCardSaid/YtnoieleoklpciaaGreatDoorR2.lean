/- An abstract interpreter of the model's code and the proof that it is sound: part 2 of 4. -/
import Derived.Laws.IdiomStrings
import Derived.Lib.UnsafeStr
import Derived.Test.YtnoieleoklpciaaGreatDoorR1
set_option linter.unusedVariables false
set_option linter.unusedSimpArgs false
namespace Go.Run
variable {cx : Cx} {π : Pl} {σ : St} {w : World} {env : Env} {a : Act}

/-! Structs, arrays and slices out of parts. -/
def RPart (π : Pl) : List (Nat × AV) → List (Nat × Value) → Prop
  | [], [] => True
  | p :: l, v :: r => p.1 = v.1 ∧ RA π p.2 v.2 ∧ RPart π l r
  | _, _ => False
theorem evParts_ok (e : RE π env a) : ∀ (ps : List (Nat × Operand)), RPart π (evParts env ps) (ps.map fun p => (p.1, a.eval p.2))
  | [] => trivial
  | (_, x) :: r => ⟨rfl, evA_ok e x, evParts_ok e r⟩
theorem evList_ok (e : RE π env a) : ∀ (ps : List Operand), RT π (evList env ps) (ps.map a.eval)
  | [] => by simp [evList, RT]
  | x :: r => by simp only [evList, List.map_cons, RT]; exact ⟨evA_ok e x, evList_ok e r⟩

theorem lay_eq (vs : List Value) (off : Nat) : ∀ (k : Nat) (cs : Array Value), off + k + vs.length ≤ cs.size →
    ((vs.zipIdx k).foldl (fun cs (c, j) => cs.setIfInBounds (off + j) c) cs).toList = cs.toList.take (off + k) ++ vs ++ cs.toList.drop (off + k + vs.length) := by
  induction vs with
  | nil => intro k cs h; simp
  | cons v r ih =>
    intro k cs h
    simp at h
    simp only [List.zipIdx_cons, List.foldl_cons]
    rw [ih (k + 1) (cs.setIfInBounds (off + k) v) (by simp; omega)]
    simp only [Array.toList_setIfInBounds]
    have h1 : off + (k + 1) = off + k + 1 := by omega
    have h2 : off + k < cs.toList.length := by simp; omega
    have h3 : (cs.toList.set (off + k) v).take (off + k + 1) = cs.toList.take (off + k) ++ [v] := by
      rw [List.take_add_one, List.getElem?_set_self h2, List.take_set_of_le (Nat.le_refl _)]; rfl
    rw [h1, h3, List.drop_set_of_lt (by omega)]
    have h4 : off + k + (v :: r).length = off + k + 1 + r.length := by simp; omega
    rw [h4]; simp

theorem fill_ok {place : Nat → Option (Nat × Nat)} : ∀ (ps : List (Nat × AV)) (l m : List CV) (qs : List (Nat × Value)) (cs : Array Value), fillA place l ps = some m → RPart π ps qs → RL π l cs.toList →
    ∃ cs', Instr.fill place cs qs = some cs' ∧ RL π m cs'.toList
  | [], l, m, [], cs, h, _, hl => by simp [fillA] at h; subst h; exact ⟨cs, rfl, hl⟩
  | (i, v) :: ps, l, m, (j, x) :: qs, cs, h, hp, hl => by
    obtain ⟨hij, hx, hr⟩ := hp
    simp only at hij; subst hij
    simp only [fillA] at h
    split at h
    · rename_i off sz us hpl hus
      rw [beq_eq] at h
      by_cases hsz : lenN us = sz
      · rw [decide_eq_true hsz] at h
        simp only [cond_true] at h
        split at h
        · rename_i l' hl'
          obtain ⟨rfl, hle⟩ := over_eq _ _ _ _ hl'
          have hc := cells_ok hus hx
          rw [lenN_eq] at hsz
          have hlen := hc.length
          have hll := hl.length
          simp at hlen hll
          have hlay := lay_eq x.cells.toList off 0 cs (by simp; omega)
          simp only [Nat.add_zero] at hlay
          have hnew : RL π (l.take off ++ us ++ l.drop (off + us.length)) ((x.cells.zipIdx.foldl (fun cs (c, j) => cs.setIfInBounds (off + j) c) cs).toList) := by
            have e : x.cells.zipIdx.foldl (fun cs (c, j) => cs.setIfInBounds (off + j) c) cs = (x.cells.toList.zipIdx 0).foldl (fun cs (c, j) => cs.setIfInBounds (off + j) c) cs := by
              rw [← Array.foldl_toList, Array.toList_zipIdx]
            rw [e, hlay, show off + x.cells.toList.length = off + us.length by simp; omega]
            exact ((hl.take off).append hc).append (hl.drop _)
          obtain ⟨cs', h1, h2⟩ := fill_ok ps _ m qs _ h hr hnew
          refine ⟨cs', ?_, h2⟩
          simp only [Instr.fill, hpl]
          rw [if_neg]
          · exact h1
          · simp; omega
        · cases h
      · rw [decide_eq_false hsz] at h; cases h
    · cases h
  | [], _, _, _ :: _, _, _, h, _ => h.elim
  | _ :: _, _, _, [], _, _, h, _ => h.elim

theorem places_ok (w : World) : ∀ (fs : List Field) (pl : List (Nat × Nat)), places cx fs = some pl → (fs.mapM fun f => do pure (f.offset, ← sizeOf f.type) : Sem (List (Nat × Nat))).run cx.P w = .ok pl w
  | [], pl, h => by simp [places] at h; subst h; rfl
  | f :: r, pl, h => by
    simp only [places] at h
    split at h
    · rename_i n l hn hl
      cases h
      simp only [List.mapM_cons, Sem.run_bind, size_run hn, Result.andThen_ok, Sem.run_pure, places_ok w r l hl]
    · cases h

theorem build_ok {t : TypeId} {ps : List (Nat × AV)} {qs : Array (Nat × Value)} (h : RPart π ps qs.toList) : Yields cx.P π σ w (Instr.build t qs) (buildA cx t ps) := by
  unfold buildA
  split
  · trivial
  · rename_i z hz
    obtain ⟨v, hv, hr⟩ := zeroCells_run hz π w
    split
    · rename_i fields hu
      split
      · rename_i pl hpl
        unfold aggO
        split
        · rename_i m hm
          have hm' : fillA (fun i => pl.toArray[i]?) z ps = some m := by
            have : (fun i => nth pl i) = fun i => pl.toArray[i]? := by funext i; rw [nth_eq]; simp
            rw [← this]; exact hm
          obtain ⟨cs', h1, h2⟩ := fill_ok ps z m qs.toList v.cells hm' h hr
          refine yields_val (x := .agg cs') ?_ (by simp only [RA]; exact ⟨_, rfl, h2⟩)
          have hp := places_ok w fields.toList pl hpl
          have hp' : (fields.mapM fun f => do pure (f.offset, ← sizeOf f.type) : Sem (Array (Nat × Nat))).run cx.P w = .ok pl.toArray w := by
            rw [Array.mapM_eq_mapM_toList]
            simp only [Sem.run_map, hp, Result.andThen_ok]
          simp only [Instr.build, Sem.run_bind, hv, Result.andThen_ok, und_run hu, hp', h1]
          rfl
        · trivial
      · trivial
    · rename_i len e hu
      split
      · rename_i n hn
        unfold aggO
        split
        · rename_i m hm
          obtain ⟨cs', h1, h2⟩ := fill_ok ps z m qs.toList v.cells hm h hr
          refine yields_val (x := .agg cs') ?_ (by simp only [RA]; exact ⟨_, rfl, h2⟩)
          simp only [Instr.build, Sem.run_bind, hv, Result.andThen_ok, und_run hu, size_run hn, h1]
          rfl
        · trivial
      · trivial
    · trivial
end Go.Run

namespace Go.Run
variable {cx : Cx} {π : Pl} {σ : St} {w : World} {env : Env} {a : Act}

theorem range_self (vs : List Value) : ((List.range vs.length).map fun i => vs[i % vs.length]!) = vs := by
  apply List.ext_getElem?
  intro i
  by_cases h : i < vs.length
  · simp [h, Nat.mod_eq_of_lt h]
  · simp [h]
theorem rep_ok {z : List CV} {vs : List Value} (h : RL π z vs) : ∀ (n : Nat), RL π (repN n z) ((List.range (n * vs.length)).map fun i => vs[i % vs.length]!)
  | 0 => by simp [repN, RL]
  | n + 1 => by
    rw [repN, show (n + 1) * vs.length = vs.length + n * vs.length by rw [Nat.add_mul]; omega, List.range_add, List.map_append, range_self]
    refine h.append ?_
    have e : ((fun i => vs[i % vs.length]!) ∘ fun x => vs.length + x) = fun i => vs[i % vs.length]! := by funext i; simp
    rw [List.map_map, e]
    exact rep_ok h n
theorem zeroRow_ok {e : TypeId} {sz n : Nat} {z : List CV} (h : rowOf cx e sz n = some z) (hs : sz ≠ 0) (π : Pl) (w : World) :
    ∃ zs : Array Value, (n * sz = 0 → zs = #[]) ∧ (n * sz ≠ 0 → ∃ v, (zeroValue e).run cx.P w = .ok v w ∧ zs = v.cells) ∧ RL π z ((Array.range (n * sz)).map (zs[· % zs.size]!)).toList ∧ ((Array.range (n * sz)).map (zs[· % zs.size]!)).size = n * sz := by
  unfold rowOf at h
  rw [beq_eq] at h
  by_cases hn : n = 0
  · subst hn
    simp at h; subst h
    exact ⟨#[], fun _ => rfl, fun h => absurd (by simp) h, by simp [RL], by simp⟩
  · rw [decide_eq_false hn] at h
    simp only [cond_false] at h
    split at h
    · rename_i z0 hz
      rw [beq_eq] at h
      by_cases hl : lenN z0 = sz
      · rw [decide_eq_true hl] at h
        cases h
        obtain ⟨v, hv, hr⟩ := zeroCells_run hz π w
        have hlen := hr.length
        rw [lenN_eq] at hl
        have hsz : v.cells.size = sz := by simp at hlen; omega
        have hne : ¬ (n * sz = 0) := by intro e; rcases Nat.mul_eq_zero.1 e with h | h <;> omega
        refine ⟨v.cells, fun h => absurd h hne, fun _ => ⟨v, hv, rfl⟩, ?_, by simp⟩
        have := rep_ok hr n
        simp only [Array.length_toList, hsz] at this
        have e : (fun x => v.cells[x % sz]!) = fun i => v.cells.toList[i % sz]! := by funext x; simp only [getElem!_def]; simp
        rw [Array.toList_map, Array.toList_range, hsz, e]
        exact this
      · rw [decide_eq_false hl] at h; cases h
    · cases h
theorem slice_new_val {π : Pl} {w : World} {l cp z : Nat} (hz : 0 < z) (hl : l ≤ cp) (i : Nat) : RA (π.upd i (w.heap.size, 0, cp * z)) (.one (.slice (some (i, 0)) l (.to z))) (.slice (some ⟨w.heap.size, 0, none⟩) l cp) := by
  simp only [RA]
  exact ⟨w.heap.size, 0, cp * z, 0, cp, Pl.upd_same _ _ _, rfl, hl, hz, by omega, by simp, .inl rfl⟩
theorem newOk_slice {l : List CV} {cs : Array Value} (h : RL π l cs.toList) (e : TypeId) {n cp z : Nat} (hz : 0 < z) (hn : n ≤ cp) (hv : cs.size = cp * z) :
    NewOk π w (w.alloc (.cells cs e)) (w.heap.size, 0, cp * z) (.cells l e true) (fun i => .one (.slice (some (i, 0)) n (.to z))) (.slice (some ⟨w.heap.size, 0, none⟩) n cp) := by
  have := newOk_row (w := w) h e [] (ex := true) (fun _ => rfl) (f := fun i => .one (.slice (some (i, 0)) n (.to z))) (v := .slice (some ⟨w.heap.size, 0, none⟩) n cp) (fun i _ => by
    simp only [List.length_nil, Nat.add_zero, Array.length_toList, hv]; exact slice_new_val hz hn i)
  simpa [hv] using this

theorem buildSlice_ok {t : TypeId} {len : Nat} {ps : List (Nat × AV)} {qs : Array (Nat × Value)} (h : RPart π ps qs.toList) : Yields cx.P π σ w (Instr.buildSlice t len qs) (buildSliceA cx t len ps) := by
  unfold buildSliceA
  split
  · rename_i e hu
    split
    · rename_i n hn
      rw [ble_eq]
      by_cases hl : len * (n + 1) ≤ 16777216
      · rw [decide_eq_true hl]
        simp only [cond_true]
        split
        · rename_i z hz
          split
          · rename_i l hf
            obtain ⟨zs, z1, z2, h2, h3⟩ := zeroRow_ok hz (by omega) π w
            obtain ⟨cs', g1, g2⟩ := fill_ok ps z l qs.toList _ hf h h2
            have hsz : cs'.size = len * (n + 1) := by
              have e1 := g2.length
              have e2 := h2.length
              have e3 : l.length = z.length := by
                clear z1 z2 h2 h3 g1 g2 e1 e2
                have : ∀ (ps : List (Nat × AV)) (z l : List CV), fillA (fun i => some (i * (n + 1), n + 1)) z ps = some l → l.length = z.length := by
                  intro ps
                  induction ps with
                  | nil => intro z l h; simp [fillA] at h; subst h; rfl
                  | cons p r ih =>
                    intro z l h
                    obtain ⟨i, v⟩ := p
                    simp only [fillA] at h
                    split at h
                    · cases hc : Nat.beq (lenN _) _ <;> rw [hc] at h
                      · cases h
                      · simp only [cond_true] at h
                        split at h
                        · rename_i l' hl'
                          obtain ⟨rfl, hle⟩ := over_eq _ _ _ _ hl'
                          have := ih _ _ h
                          rw [this]; simp; omega
                        · cases h
                    · cases h
                exact this ps z l hf
              simp at e1 e2; simp at h3; omega
            refine ⟨_, _, _, ?_, newOk_slice (cp := len) (z := n + 1) g2 e (by omega) (Nat.le_refl _) hsz⟩
            have hgt : ¬ (len * (n + 1) > 2 ^ 24) := by omega
            simp only [Instr.buildSlice, Sem.run_bind, und_run hu, Result.andThen_ok, size_run hn, Sem.run_ite, hgt, if_false, Sem.run_pure]
            by_cases h0 : len * (n + 1) = 0
            · have := z1 h0; subst this
              rw [if_pos h0]
              have g1' : Instr.fill (fun i => some (i * n.succ, n.succ)) (Array.map (fun x => #[][x % (#[] : Array Value).size]!) (Array.range (len * n.succ))) qs.toList = some cs' := g1
              rw [g1']
              simp [newRow, World.alloc_eq]
            · obtain ⟨v, hv, rfl⟩ := z2 h0
              rw [if_neg h0]
              simp only [hv, Result.andThen_ok]
              have g1' : Instr.fill (fun i => some (i * n.succ, n.succ)) (Array.map (fun x => v.cells[x % v.cells.size]!) (Array.range (len * n.succ))) qs.toList = some cs' := g1
              rw [g1']
              simp [newRow, World.alloc_eq]
          · trivial
        · trivial
      · rw [decide_eq_false hl]; trivial
    · trivial
  · trivial
theorem wrap64_id {n : Nat} (h : n ≤ 4611686018427387904) : IntKind.i64.wrap (n : Int) = n := by
  rw [← wrapA_ok]
  show wrapS 9223372036854775808 18446744073709551616 (n : Int) = n
  have : wrapS 9223372036854775808 18446744073709551616 (n : Int) = bif Nat.ble 9223372036854775808 (n % 18446744073709551616) then Int.subNatNat (n % 18446744073709551616) 18446744073709551616 else .ofNat (n % 18446744073709551616) := rfl
  rw [this, Nat.mod_eq_of_lt (by omega), ble_eq, decide_eq_false (by omega)]
  rfl
theorem makeSlice_ok {t : TypeId} {l c : AV} {L C : Value} (hl : RA π l L) (hc : RA π c C) : Yields cx.P π σ w (Instr.makeSlice t L C) (makeSliceA cx t l c) := by
  unfold makeSliceA
  split
  · rename_i e hu
    split
    · rename_i l' c' hl' hc'
      split
      · rename_i i hi
        simp only [ble_eq, beq_eq]
        by_cases h1 : i.bytes * c' ≤ 140737488355328
        · by_cases h2 : l' ≤ c'
          · by_cases h3 : c' ≤ 4611686018427387904
            · by_cases h4 : i.size = 0
              · rw [decide_eq_true h4]; simp; trivial
              · rw [decide_eq_true h1, decide_eq_true h2, decide_eq_true h3, decide_eq_false h4]
                simp only [Bool.and_self, Bool.not_false, cond_true]
                split
                · rename_i z hz
                  obtain ⟨k1, rfl⟩ := natOf_ok hl' hl
                  obtain ⟨k2, rfl⟩ := natOf_ok hc' hc
                  obtain ⟨zs, z1, z2, g2, g3⟩ := zeroRow_ok hz h4 π w
                  refine ⟨_, _, _, ?_, newOk_slice (cp := c') (z := i.size) g2 e (by omega) h2 g3⟩
                  have w1 : IntKind.i64.wrap (l' : Int) = l' := wrap64_id (by omega)
                  have w2 : IntKind.i64.wrap (c' : Int) = c' := wrap64_id h3
                  have hb : (i.bytes : Int) * (c' : Int) ≤ 2 ^ 48 := by
                    have := Int.ofNat_le.2 h1
                    rw [Int.natCast_mul] at this
                    omega
                  have hc0 : ¬ ((c' : Int) < 0) := by omega
                  have hb' : ¬ ((i.bytes : Int) * (c' : Int) > 2 ^ 48) := by omega
                  have hl0 : ¬ ((l' : Int) < 0) := by omega
                  have hlc : ¬ ((l' : Int) > (c' : Int)) := by omega
                  have hsize : (sizeOf e).run cx.P w = .ok i.size w := size_run (by simp [size, hi]) w
                  have hti : (typeInfo e).run cx.P w = .ok i w := by simp [typeInfo, hi]
                  simp only [Instr.makeSlice, Sem.run_bind, und_run hu, Result.andThen_ok, asInt, asIntOf, Sem.run_pure, hti, w1, w2]
                  simp only [hc0, hb', hl0, hlc, decide_false, Bool.or_self, Bool.false_eq_true, if_false, or_self, Sem.run_bind, run_askRoom, Result.andThen_ok, hsize, Int.toNat_natCast, Sem.run_ite, Sem.run_pure]
                  by_cases h0 : c' * i.size = 0
                  · have := z1 h0; subst this
                    rw [if_pos h0]
                    simp [newRow, World.alloc_eq]
                  · obtain ⟨v, hv, rfl⟩ := z2 h0
                    rw [if_neg h0]
                    simp [hv, newRow, World.alloc_eq]
                · trivial
            · rw [decide_eq_false h3]; simp; trivial
          · rw [decide_eq_false h2]; simp; trivial
        · rw [decide_eq_false h1]; simp; trivial
      · trivial
    · trivial
  · trivial
end Go.Run

namespace Go.Run
variable {cx : Cx} {π : Pl} {σ : St} {w : World} {env : Env} {a : Act}

theorem sliceBound_run (e : RE π env a) {v : Operand} {n y : Nat} (h : natOf (evA v env) = some n) (hn : n ≤ y) (code : BoundsCode) : (Instr.sliceBound (a.eval v) y code).run cx.P w = .ok n w := by
  obtain ⟨k, hk⟩ := natOf_ok h (evA_ok e v)
  have h1 : (0 : Int) ≤ (n : Int) ∧ (n : Int) ≤ y := by omega
  simp [Instr.sliceBound, hk, asIntOf]
  omega

theorem bounds_two (e : RE π env a) {s : Bool} {len cap l h : Nat} {lo hi : Option Operand} (hl : boundA lo 0 env = some l) (hh : boundA hi len env = some h) (hlh : l ≤ h) (hc : h ≤ cap) :
    (Instr.sliceBounds s len cap (lo.map a.eval) (hi.map a.eval) none).run cx.P w = .ok (l, h, cap) w := by
  cases lo with
  | none =>
    cases hl
    cases hi with
    | none => cases hh; simp [Instr.sliceBounds]
    | some hi =>
      have := sliceBound_run (cx := cx) (w := w) e (v := hi) hh hc (if s then .sliceAcap else .sliceAlen)
      simp [Instr.sliceBounds, this]
  | some lo =>
    have h1 := sliceBound_run (cx := cx) (w := w) e (v := lo) hl hlh .sliceB
    cases hi with
    | none => cases hh; simp [Instr.sliceBounds, h1]
    | some hi =>
      have := sliceBound_run (cx := cx) (w := w) e (v := hi) hh hc (if s then .sliceAcap else .sliceAlen)
      simp [Instr.sliceBounds, this, h1]
theorem bounds_three (e : RE π env a) {s : Bool} {len cap l h m : Nat} {lo : Option Operand} {hi mx : Operand} (hl : boundA lo 0 env = some l) (hh : natOf (evA hi env) = some h) (hm : natOf (evA mx env) = some m) (hlh : l ≤ h) (hhm : h ≤ m) (hc : m ≤ cap) :
    (Instr.sliceBounds s len cap (lo.map a.eval) (some (a.eval hi)) (some (a.eval mx))).run cx.P w = .ok (l, h, m) w := by
  have h1 := sliceBound_run (cx := cx) (w := w) e (v := mx) hm hc (if s then .slice3Acap else .slice3Alen)
  have h2 := sliceBound_run (cx := cx) (w := w) e (v := hi) hh hhm .slice3B
  cases lo with
  | none => cases hl; simp [Instr.sliceBounds, h1, h2]
  | some lo =>
    have h3 := sliceBound_run (cx := cx) (w := w) e (v := lo) hl hlh .slice3C
    simp [Instr.sliceBounds, h1, h2, h3]

theorem str_slice {s : ByteArray} {l h : Nat} {b : List UInt8} (hb : takeN (h - l) (dropN l (bytesOf s)) = some b) : s.extract l h = ofBytes b := by
  rw [dropN_eq] at hb
  obtain ⟨rfl, _⟩ := takeN_eq _ _ _ hb
  apply ByteArray.ext
  rw [ByteArray.data_extract]
  apply Array.toList_inj.1
  simp [ofBytes, bytesOf, List.take_drop]

/-- an index that is not behind the end of what is known -/
theorem cap_least {p : Nat × Nat} {c : Cap} {sz n : Nat} {x : Bool} (hR : R π σ w) (h : capOf p c sz σ = some (n, x)) {len b base bs ad cp : Nat} (hp : π p.1 = some (b, base, bs)) (hc : CapOk c p.2 len b base bs ad cp) :
    n ≤ cp ∧ (x = true → n = cp) := by
  cases c with
  | ex c => simp [capOf] at h; obtain ⟨rfl, rfl⟩ := h; exact ⟨by have := hc.1; omega, fun _ => hc.1.symm⟩
  | to z =>
    simp only [capOf, beq_eq] at h
    by_cases hz : z = sz
    · rw [decide_eq_true hz] at h
      simp only [cond_true] at h
      subst hz
      split at h
      · rename_i l e ex hi
        cases h
        obtain ⟨x', hx', hb⟩ := hR.blk p.1 _ hi
        rw [hp] at hx'; cases hx'
        obtain ⟨cs, frz, h1, h2, h3, h4, _⟩ := hb
        obtain ⟨c1, c2, c3, c4⟩ := hc
        rw [lenN_eq]
        simp only at h2 h3 h4
        have key : Nat.div (Nat.sub l.length p.2) z = (l.length - p.2) / z := rfl
        rw [key]
        constructor
        · have : (l.length - p.2) / z * z ≤ l.length - p.2 := Nat.div_mul_le_self _ _
          have h5 : (l.length - p.2) / z * z ≤ cp * z := by omega
          exact Nat.le_of_mul_le_mul_right h5 c1
        · intro hx
          obtain ⟨rfl, hl⟩ := h4 hx
          have : l.length - p.2 = cp * z := by omega
          rw [this, Nat.mul_div_cancel _ c1]
      · rename_i l hi
        cases h
        obtain ⟨x', hx', hb⟩ := hR.blk p.1 _ hi
        rw [hp] at hx'; cases hx'
        obtain ⟨cs, e, frz, h1, h2, h3, _⟩ := hb
        obtain ⟨c1, c2, c3, c4⟩ := hc
        rw [lenN_eq]
        simp only at h2 h3
        have key : Nat.div (Nat.sub l.length p.2) z = (l.length - p.2) / z := rfl
        rw [key]
        refine ⟨?_, fun h => by cases h⟩
        have : (l.length - p.2) / z * z ≤ l.length - p.2 := Nat.div_mul_le_self _ _
        have h5 : (l.length - p.2) / z * z ≤ cp * z := by omega
        exact Nat.le_of_mul_le_mul_right h5 c1
      · cases h
    · rw [decide_eq_false hz] at h; cases h

theorem slV_ok {P : Program} {s : Sem Value} {p : Nat × Nat} {l : Nat} {c : Cap} {b base bs ad cp : Nat} (hp : π p.1 = some (b, base, bs)) (h : s.run P w = .ok (.slice (some ⟨b, ad, none⟩) l cp) w) (hl : l ≤ cp) (hc : CapOk c p.2 l b base bs ad cp) :
    Yields P π σ w s (slV p l c) := yields_val h (by simp only [RA]; exact ⟨b, base, bs, ad, cp, hp, rfl, hl, hc⟩)

theorem add_mid' (b o j : Nat) : (⟨b, o, none⟩ : Addr).add j = ⟨b, o + j, none⟩ := Addr.add_mid b o j

theorem slice_two_run (e : RE π env a) {t el : TypeId} {n len cp l h : Nat} {ad b : Nat} {lo hi : Option Operand} (hu : und cx t = some (.slice el)) (hn : size cx el = some n) (hl : boundA lo 0 env = some l) (hh : boundA hi len env = some h) (hlh : l ≤ h) (hc : h ≤ cp) :
    (Instr.sliceAt t (.slice (some ⟨b, ad, none⟩) len cp) (lo.map a.eval) (hi.map a.eval) none).run cx.P w = .ok (.slice (some ⟨b, if cp = l then ad else ad + l * n, none⟩) (h - l) (cp - l)) w := by
  have := bounds_two (cx := cx) (w := w) e (s := true) (len := len) hl hh hlh hc
  simp only [Instr.sliceAt, Sem.run_bind, und_run hu, Result.andThen_ok, Instr.slice, this, size_run hn]
  by_cases hcl : cp = l
  · simp [hcl]
  · simp [hcl, add_mid']

theorem slice_ok (hR : R π σ w) (e : RE π env a) {t : TypeId} {x : Operand} {lo hi mx : Option Operand} : Yields cx.P π σ w (Instr.sliceAt t (a.eval x) (lo.map a.eval) (hi.map a.eval) (mx.map a.eval)) (sliceA cx t (evA x env) lo hi mx env σ) := by
  have hx := evA_ok e x
  unfold sliceA
  split
  · rename_i s hu hxs
    rw [hxs] at hx
    rw [str_of hx]
    split
    · unfold sliceStr
      split
      · rename_i l h hl hh
        rw [ble_eq, ble_eq]
        by_cases h1 : l ≤ h
        · by_cases h2 : h ≤ lenN (bytesOf s)
          · rw [decide_eq_true h1, decide_eq_true h2]
            simp only [Bool.and_self, cond_true]
            split
            · rename_i b hb
              have hsz : lenN (bytesOf s) = s.size := by rw [lenN_eq]; rfl
              rw [hsz] at hh h2
              have := bounds_two (cx := cx) (w := w) e (s := false) (len := s.size) hl hh h1 h2
              refine yields_val (x := .string (s.extract l h)) ?_ (by rw [str_slice hb]; exact RA_str _)
              simp [Instr.sliceAt, und_run hu, Instr.slice, this]
            · trivial
          · rw [decide_eq_false h2]; simp; trivial
        · rw [decide_eq_false h1]; simp; trivial
      · trivial
    · trivial
  · rename_i el len c hu hxs
    rw [hxs] at hx
    simp only [RA] at hx
    obtain ⟨rfl, hX⟩ := hx
    rw [hX]
    cases mx with
    | some m => trivial
    | none =>
    simp only [Option.isNone_none]
    unfold sliceNil
    split
    · rename_i n _ hl hh hn
      have := bounds_two (cx := cx) (w := w) e (s := true) (len := 0) (cap := 0) hl hh (Nat.le_refl _) (Nat.le_refl _)
      refine yields_val (x := .slice none 0 0) ?_ (by simp only [RA]; exact ⟨rfl, rfl⟩)
      simp [Instr.sliceAt, und_run hu, Instr.slice, this, size_run hn]
    · trivial
  · rename_i el p len c hu hxs
    rw [hxs] at hx
    simp only [RA] at hx
    obtain ⟨b, base, bs, ad, cp, hp, hX, hle, hc⟩ := hx
    rw [hX]
    split
    · rename_i n hn
      split
      · unfold sliceTwo
        split
        · rename_i l h hl hh
          rw [ble_eq]
          by_cases hlh : l ≤ h
          · rw [decide_eq_true hlh]
            simp only [cond_true]
            rw [ble_eq]
            by_cases hhl : h ≤ len
            · rw [decide_eq_true hhl]
              simp only [cond_true]
              have hrun := slice_two_run (cx := cx) (w := w) (b := b) (ad := ad) e hu hn hl hh hlh (Nat.le_trans hhl hle)
              split
              · rename_i z
                rw [beq_eq]
                by_cases hz : z = n + 1
                · rw [decide_eq_true hz]; subst hz
                  simp only [cond_true]
                  obtain ⟨c1, c2, c3, c4⟩ := hc
                  refine slV_ok (p := (p.1, Nat.add p.2 (Nat.mul l (n + 1)))) hp hrun (by show h - l ≤ cp - l; omega) ?_
                  have hlc : l * (n + 1) ≤ cp * (n + 1) := Nat.mul_le_mul_right _ (by omega)
                  refine ⟨c1, ?_, ?_, ?_⟩
                  · show base + (p.2 + l * (n + 1)) ≤ bs; omega
                  · show (cp - l) * (n + 1) = bs - (base + (p.2 + l * (n + 1)))
                    rw [Nat.sub_mul]; omega
                  · show (if cp = l then ad else ad + l * (n + 1)) = base + (p.2 + l * (n + 1)) ∨ cp - l = 0
                    by_cases hcl : cp = l
                    · right; omega
                    · rw [if_neg hcl]
                      rcases c4 with h | h
                      · left; omega
                      · omega
                · rw [decide_eq_false hz]; trivial
              · rename_i c
                obtain ⟨rfl, hc2⟩ := hc
                rw [beq_eq]
                by_cases hcl : l = cp
                · rw [decide_eq_true hcl]; subst hcl
                  simp only [if_true] at hrun
                  exact slV_ok hp hrun (by show h - l ≤ l - l; omega) ⟨by omega, .inr rfl⟩
                · rw [decide_eq_false hcl]
                  rw [if_neg (Ne.symm hcl)] at hrun
                  refine slV_ok (p := (p.1, Nat.add p.2 (Nat.mul l (n + 1)))) hp hrun (by show h - l ≤ cp - l; omega) ⟨rfl, ?_⟩
                  show ad + l * (n + 1) = base + (p.2 + l * (n + 1)) ∨ cp - l = 0
                  rcases hc2 with h | h
                  · left; omega
                  · right; omega
            · rw [decide_eq_false hhl]
              simp only [cond_false]
              split
              · rename_i c' x' hcap
                obtain ⟨hle', _⟩ := cap_least hR hcap hp hc
                rw [blt_eq, ble_eq]
                by_cases g1 : l < h
                · by_cases g2 : h ≤ c'
                  · rw [decide_eq_true g1, decide_eq_true g2]
                    simp only [Bool.and_self, cond_true]
                    have hrun := slice_two_run (cx := cx) (w := w) (b := b) (ad := ad) e hu hn hl hh hlh (Nat.le_trans g2 hle')
                    rw [if_neg (by omega)] at hrun
                    refine slV_ok (p := (p.1, Nat.add p.2 (Nat.mul l (n + 1)))) hp hrun (by show h - l ≤ cp - l; omega) ?_
                    cases c with
                    | ex c =>
                      refine ⟨by show cp - l = c - l; rw [hc.1], ?_⟩
                      show ad + l * (n + 1) = base + (p.2 + l * (n + 1)) ∨ c - l = 0
                      rcases hc.2 with h | h
                      · left; omega
                      · right; omega
                    | to z =>
                      have hz : z = n + 1 := by
                        simp only [capOf, beq_eq] at hcap
                        by_cases hz : z = n + 1
                        · exact hz
                        · rw [decide_eq_false hz] at hcap; cases hcap
                      subst hz
                      obtain ⟨c1, c2, c3, c4⟩ := hc
                      have hlc : l * (n + 1) ≤ cp * (n + 1) := Nat.mul_le_mul_right _ (by omega)
                      refine ⟨c1, ?_, ?_, ?_⟩
                      · show base + (p.2 + l * (n + 1)) ≤ bs; omega
                      · show (cp - l) * (n + 1) = bs - (base + (p.2 + l * (n + 1)))
                        rw [Nat.sub_mul]; omega
                      · show ad + l * (n + 1) = base + (p.2 + l * (n + 1)) ∨ cp - l = 0
                        rcases c4 with h | h
                        · left; omega
                        · omega
                  · rw [decide_eq_false g2]; simp; trivial
                · rw [decide_eq_false g1]; simp; trivial
              · trivial
          · rw [decide_eq_false hlh]; trivial
        · trivial
      · rename_i m
        split
        · rename_i h'
          unfold sliceThree
          split
          · rename_i l h m' hl hh hm
            split
            · rename_i c' x' hcap
              obtain ⟨hle', _⟩ := cap_least hR hcap hp hc
              simp only [ble_eq, beq_eq, blt_eq]
              by_cases g : l ≤ h ∧ h ≤ m' ∧ ¬ (m' = l ∧ 0 < l) ∧ (m' ≤ c' ∨ m' ≤ len)
              · obtain ⟨g1, g2, g3, g4⟩ := g
                have hb : (decide (l ≤ h) && decide (h ≤ m') && !(decide (m' = l) && decide (0 < l)) && (decide (m' ≤ c') || decide (m' ≤ len))) = true := by simp; omega
                rw [hb]
                simp only [cond_true]
                have hmc : m' ≤ cp := by omega
                have := bounds_three (cx := cx) (w := w) e (s := true) (len := len) hl hh hm g1 g2 hmc
                have hrun : (Instr.sliceAt t (.slice (some ⟨b, ad, none⟩) len cp) (lo.map a.eval) ((some h').map a.eval) ((some m).map a.eval)).run cx.P w = .ok (.slice (some ⟨b, ad + l * (n + 1), none⟩) (h - l) (m' - l)) w := by
                  simp only [Option.map_some, Instr.sliceAt, Sem.run_bind, und_run hu, Result.andThen_ok, Instr.slice, this, size_run hn]
                  by_cases hcl : m' = l
                  · have : l = 0 := by omega
                    subst this; subst hcl; simp
                  · simp [hcl, add_mid']
                have had : ad = base + p.2 ∨ cp = 0 := by
                  cases c with
                  | ex c => exact hc.2.imp id fun h => by rw [hc.1, h]
                  | to z => exact hc.2.2.2
                refine slV_ok (p := (p.1, Nat.add p.2 (Nat.mul l (n + 1)))) hp hrun (Nat.sub_le_sub_right g2 l) ⟨rfl, ?_⟩
                show ad + l * (n + 1) = base + (p.2 + l * (n + 1)) ∨ m' - l = 0
                rcases had with h | h
                · left; omega
                · right; omega
              · have hb : (decide (l ≤ h) && decide (h ≤ m') && !(decide (m' = l) && decide (0 < l)) && (decide (m' ≤ c') || decide (m' ≤ len))) = false := by
                  rw [Bool.eq_false_iff]; intro hh; apply g; simp at hh; omega
                rw [hb]; trivial
            · trivial
          · trivial
        · trivial
    · trivial
  · rename_i n el p hu hxs
    rw [hxs] at hx
    simp only [RA] at hx
    obtain ⟨b, base, bs, hp, hX⟩ := hx
    rw [hX]
    cases mx with
    | some m => trivial
    | none =>
    simp only [Option.isNone_none]
    unfold sliceArr
    split
    · rename_i k l h _ hn hl hh
      rw [ble_eq, ble_eq]
      by_cases h1 : l ≤ h
      · by_cases h2 : h ≤ n
        · rw [decide_eq_true h1, decide_eq_true h2]
          simp only [Bool.and_self, cond_true]
          have hb := bounds_two (cx := cx) (w := w) e (s := false) (len := n) hl hh h1 h2
          have hrun : (Instr.sliceAt t (.pointer (some ⟨b, base + p.2, none⟩)) (lo.map a.eval) (hi.map a.eval) ((none : Option Operand).map a.eval)).run cx.P w = .ok (.slice (some ⟨b, if n = l then base + p.2 else base + p.2 + l * (k + 1), none⟩) (h - l) (n - l)) w := by
            simp only [Option.map_none, Instr.sliceAt, Sem.run_bind, und_run hu, Result.andThen_ok, Instr.sureAddr, Sem.run_pure, hb, size_run hn]
            by_cases hcl : n = l
            · simp [hcl]
            · simp [hcl, add_mid']
          rw [beq_eq]
          by_cases hcl : n = l
          · rw [decide_eq_true hcl]; subst hcl
            simp only [if_true] at hrun
            exact slV_ok hp hrun (Nat.sub_le_sub_right h2 n) ⟨by omega, .inr rfl⟩
          · rw [decide_eq_false hcl]
            rw [if_neg hcl] at hrun
            exact slV_ok (p := (p.1, Nat.add p.2 (Nat.mul l (k + 1)))) hp hrun (Nat.sub_le_sub_right h2 l) ⟨rfl, .inl (by show base + p.2 + l * (k + 1) = base + (p.2 + l * (k + 1)); omega)⟩
        · rw [decide_eq_false h2]; simp; trivial
      · rw [decide_eq_false h1]; simp; trivial
    · trivial
  · trivial
end Go.Run

namespace Go.Run
variable {cx : Cx} {π : Pl} {σ : St} {w : World} {env : Env} {a : Act}

theorem cellsOfBytes_ok : ∀ (l : List UInt8), RL π (cellsOfBytes l) (l.map fun b => Value.int .u8 (b.toNat : Int))
  | [] => trivial
  | b :: r => ⟨rfl, cellsOfBytes_ok r⟩
theorem bytesAt_ok : ∀ (l : List CV) (b : List UInt8) (vs : List Value), bytesAt l = some b → RL π l vs → vs = b.map (fun x => Value.int .u8 (x.toNat : Int))
  | [], b, [], h, _ => by simp [bytesAt] at h; subst h; rfl
  | c :: r, b, v :: vs, h, hl => by
    unfold bytesAt at h
    split at h
    · rename_i heq; cases heq
    · rename_i n r' heq
      cases heq
      rw [blt_eq] at h
      by_cases hn : n < 256
      · rw [decide_eq_true hn] at h
        simp only [cond_true] at h
        split at h
        · rename_i b' hb'
          cases h
          have := bytesAt_ok _ b' vs hb' hl.2
          have h1 : v = .int .u8 (n : Int) := hl.1
          rw [h1, this, List.map_cons]
          congr 2
          have : n.toUInt8.toNat = n := by simp [Nat.toUInt8, UInt8.toNat_ofNat']; omega
          rw [this]
        · cases h
      · rw [decide_eq_false hn] at h; cases h
    · cases h
  | [], _, _ :: _, _, h => h.elim
  | _ :: _, _, [], _, h => h.elim

theorem grownCap_ge (w : World) (n m : Nat) (e : TypeId) : n ≤ grownCap w n m e := by simp [grownCap, Question.cut]

theorem conv_ok (hR : R π σ w) {s d : TypeId} {x : AV} {X : Value} (hx : RA π x X) : Yields cx.P π σ w (convert s d X) (convA cx s d x σ) := by
  unfold convA
  split
  · trivial
  · rename_i su hsu
    split
    · rename_i k k' n hu
      rw [int_of hx]
      exact yields_int (m := k.wrap n) (by simp [convert, und_run hsu, und_run hu, Conv.intToInt]) (wrapA_ok _ _)
    · rename_i b hu
      rw [str_of hx]
      exact yields_val (x := .string b) (by simp [convert, und_run hsu, und_run hu]) (RA_str _)
    · rename_i e b hu
      rw [str_of hx]
      split
      · rename_i hue
        split
        · rename_i hsz
          have hrun := run_bytes_of_string (P := cx.P) w s d e b hsu hu hue
          have hg := grownCap_ge w b.size 0 e
          have hb : b.data.size = b.size := rfl
          have hsize : (bytesRow b (grownCap w b.size 0 e)).size = grownCap w b.size 0 e := by simp [bytesRow, hb]; omega
          have hlen : (bytesOf b).length = b.size := rfl
          refine ⟨_, _, (w.heap.size, 0, grownCap w b.size 0 e), hrun, ⟨rfl, ⟨by simp, fun i hi => ?_, ⟨rfl, rfl, rfl⟩⟩, fun i hi => ?_, fun i hi => ?_⟩⟩
          · have := (more_alloc w.drew (.cells (bytesRow b (grownCap w b.size 0 e)) e ((bytesRow b (grownCap w b.size 0 e)).size, (bytesRow b (grownCap w b.size 0 e)).size + 1))).old i hi
            exact this
          · refine ⟨_, _, heap_alloc w.drew _, hsize, ?_, fun h => (by cases h), fun j hj => ?_, _, cellsOfBytes_ok (bytesOf b), fun j v hj => ?_⟩
            · simp [cellsOfBytes]; rw [hlen]; exact hg
            · simp only [hsize]; simp only at hj; omega
            · simp only [Nat.zero_add, bytesRow]
              have hjl : j < b.data.size := by
                rcases Nat.lt_or_ge j (bytesOf b).length with h | h
                · exact h
                · rw [List.getElem?_eq_none (by simpa using h)] at hj; cases hj
              rw [Array.getElem?_append_left (by simpa using hjl)]
              simp [bytesOf] at hj
              simp [hj]
          · simp only [RA]
            refine ⟨_, _, _, 0, grownCap w b.size 0 e, Pl.upd_same _ _ _, ?_, ?_, by omega, by omega, by simp, .inl rfl⟩
            · rw [lenN_eq, hlen]
            · rw [lenN_eq, hlen]; exact hg
        · trivial
      · trivial
    · rename_i p n c hu
      split
      · rename_i e
        split
        · rename_i hue
          split
          · simp only [RA] at hx
            obtain ⟨rfl, rfl⟩ := hx
            refine yields_val (x := .string .empty) ?_ (by have : ofBytes [] = ByteArray.empty := rfl
                                                           rw [this]; exact RA_str _)
            simp [convert, und_run hsu, und_run hu, und_run hue, Conv.bytesToString]
          · rename_i i o
            split
            · rename_i l hi
              split
              · rename_i cs hcs
                split
                · rename_i b hb
                  obtain ⟨b0, hi, hl0⟩ := rd_get hi
                  obtain ⟨⟨bl, base, sz⟩, hp, hblk⟩ := hR.blk i _ hi
                  simp only [RA] at hx
                  obtain ⟨b', base', sz', ad, cp, hp', rfl, hle, hc⟩ := hx
                  simp only at hp'
                  rw [hp] at hp'; cases hp'
                  obtain ⟨ms, h1, h2, h3⟩ := hblk.read hl0 hcs
                  have hms := bytesAt_ok cs b ms hb h1
                  have hbl : b.length = n := by rw [← h2, hms]; simp
                  subst hbl
                  have had : b.length = 0 ∨ ad = base + o := by
                    cases c with
                    | ex c => rcases hc.2 with h | h
                              · exact .inr h
                              · left; have := hc.1; omega
                    | to z => rcases hc.2.2.2 with h | h
                              · exact .inr h
                              · left; omega
                  refine yields_val (x := .string ⟨b.toArray⟩) ?_ (RA_str _)
                  refine run_convert_bytes_back (P := cx.P) w s d e ⟨bl, ad, none⟩ cp b hsu hue hu (fun j hj => ?_)
                  rcases had with h | h
                  · omega
                  · subst h
                    rw [Addr.add_mid]
                    refine h3 j _ ?_
                    rw [hms]; simp [hj]
                · trivial
              · trivial
            · trivial
        · trivial
      · trivial
    · rename_i hu
      split
      · have e : X = .pointer none := by simpa [RA, RC] using hx
        subst e
        refine yields_val ?_ hx
        simp [convert, und_run hsu, und_run hu, Conv.unsafePointer]
      · trivial
    · rename_i u hu
      split
      · have e : X = .pointer none := by simpa [RA, RC] using hx
        subst e
        refine yields_val ?_ hx
        simp [convert, und_run hsu, und_run hu, Conv.unsafePointer]
      · trivial
    · rename_i i o hu
      split
      · rename_i t
        split
        · rename_i l el ex n hi hn
          rw [blt_eq]
          by_cases ho : o < lenN l
          · rw [decide_eq_true ho]
            obtain ⟨⟨bl, base, sz⟩, hp, hblk⟩ := hR.blk i _ hi
            have hx' := hx
            simp only [RA] at hx
            obtain ⟨b', base', sz', hp', rfl⟩ := hx
            simp only at hp'
            rw [hp] at hp'; cases hp'
            obtain ⟨cs, frz, h1, h2, h3, _⟩ := hblk
            simp only at h1 h2 h3
            rw [lenN_eq] at ho
            have hsh : w.shape? bl = some (el, cs.size) := by simp [World.shape?, h1]
            refine yields_val ?_ hx'
            have hlt : ¬ (cs.size ≤ base + o) := by omega
            simp [convert, und_run hsu, und_run hu, Conv.unsafePointer, Conv.seenAt, viewAt, hsh, cellsIn, hlt, size_run hn]
          · rw [decide_eq_false ho]; trivial
        · trivial
      · trivial
    · rename_i u i o hu
      split
      · split
        · rename_i l el n hi hn
          cases hla : liesAt cx.P cx.P.depth el (lenN l / cx.P.cellsOf el) o u 1
          · trivial
          · obtain ⟨⟨bl, base, sz⟩, hp, hblk⟩ := hR.blk i _ hi
            have hx' := hx
            simp only [RA] at hx
            obtain ⟨b', base', sz', hp', rfl⟩ := hx
            simp only at hp'
            rw [hp] at hp'; cases hp'
            obtain ⟨cs, frz, h1, h2, h3, h4, _⟩ := hblk
            simp only at h1 h2 h3 h4
            obtain ⟨rfl, hl⟩ := h4 trivial
            have hsh : w.shape? bl = some (el, cs.size) := by simp [World.shape?, h1]
            refine yields_val ?_ hx'
            rw [lenN_eq, hl, ← h2] at hla
            simp [convert, und_run hsu, und_run hu, Conv.unsafePointer, Conv.seenAt, viewAt, hsh, size_run hn, variablesAt, hla]
        · trivial
      · trivial
    · trivial
end Go.Run

namespace Go.Run
variable {cx : Cx} {π : Pl} {σ : St} {w : World} {env : Env} {a : Act}

/-- where a slice that is not empty lies -/
theorem slice_at {c : Cap} {o l b base sz ad cp : Nat} (h : CapOk c o l b base sz ad cp) (hl : l ≤ cp) (h0 : l ≠ 0) : ad = base + o := by
  cases c with
  | ex c => rcases h.2 with h' | h'
            · exact h'
            · have := h.1; omega
  | to z => rcases h.2.2.2 with h' | h'
            · exact h'
            · omega

theorem lenA_ok {x : AV} {n : Nat} {X : Value} (h : lenA x = some n) (hx : RA π x X) : (Builtin.lenOf X).run cx.P w = .ok n w := by
  unfold lenA at h
  split at h
  · rename_i p n c
    cases h
    cases p with
    | none => simp only [RA] at hx; obtain ⟨rfl, rfl⟩ := hx; simp [Builtin.lenOf]
    | some p => simp only [RA] at hx; obtain ⟨_, _, _, _, _, _, rfl, _⟩ := hx; simp [Builtin.lenOf]
  · cases h; rw [str_of hx, lenN_eq]; simp [Builtin.lenOf]; rfl
  · cases h

/-- what is handed over: n elements at the front -/
theorem first_ok (hR : R π σ w) {sz n : Nat} {x : AV} {cs : List CV} {X : Value} (h : firstA sz n x σ = some cs) (hx : RA π x X) (hn : ∀ p l c, x = .one (.slice p l c) → n ≤ l) :
    ∃ vs : List Value, (Builtin.firstCells sz n X).run cx.P w = .ok vs.toArray w ∧ RL π cs vs ∧ vs.length = n * sz := by
  unfold firstA at h
  split at h
  · rename_i l c
    rw [beq_eq] at h
    by_cases h0 : n = 0
    · rw [decide_eq_true h0] at h; cases h; subst h0
      simp only [RA] at hx; obtain ⟨_, rfl⟩ := hx
      exact ⟨[], by simp [Builtin.firstCells], trivial, by simp⟩
    · rw [decide_eq_false h0] at h; cases h
  · rename_i p l c
    simp only [RA] at hx; obtain ⟨b, base, bs, ad, cp, hp, rfl, hle, hc⟩ := hx
    have hnl := hn _ _ _ rfl
    rw [beq_eq] at h
    by_cases h0 : n = 0
    · rw [decide_eq_true h0] at h; cases h; subst h0
      have hl : (loadCells ⟨b, ad, none⟩ 0).run cx.P w = .ok #[] w := by simpa using run_loadCells_list (P := cx.P) w ⟨b, ad, none⟩ [] (by simp)
      exact ⟨[], by simp [Builtin.firstCells, hl], trivial, by simp⟩
    · rw [decide_eq_false h0] at h
      simp only [cond_false] at h
      split at h
      · rename_i k hi
        obtain ⟨b0, hi, hl0⟩ := rd_get hi
        obtain ⟨⟨b', base', sz'⟩, hp', hblk⟩ := hR.blk p.1 _ hi
        rw [hp] at hp'; cases hp'
        obtain ⟨ms, h1, h2, h3⟩ := hblk.read hl0 h
        have had := slice_at hc hle (by omega)
        subst had
        have hl := run_loadCells_list (P := cx.P) w ⟨b, base + p.2, none⟩ ms (fun j v hj => by rw [Addr.add_mid]; exact h3 j v hj)
        rw [h2] at hl
        exact ⟨ms, by simpa [Builtin.firstCells] using hl, h1, h2⟩
      · cases h
  · rename_i s
    rw [beq_eq] at h
    by_cases h1 : sz = 1
    · rw [decide_eq_true h1] at h
      simp only [cond_true] at h
      subst h1
      split at h
      · rename_i l hl
        cases h
        obtain ⟨rfl, hle⟩ := takeN_eq _ _ _ hl
        rw [str_of hx]
        have hll : (bytesOf s).length = s.size := rfl
        refine ⟨_, ?_, cellsOfBytes_ok _, by simp; omega⟩
        have : (s.extract 0 n).data = ((bytesOf s).take n).toArray := by
          rw [ByteArray.data_extract]
          apply Array.toList_inj.1
          simp [bytesOf]
        simp only [Builtin.firstCells, this, Sem.run_pure]
        simp
      · cases h
    · rw [decide_eq_false h1] at h; cases h
  · cases h

/-- cells of a known block are written -/
theorem storeCells_ok (hR : R π σ w) {p : Nat × Nat} {cs : List CV} {vs : List Value} {v : AV} (hv : RL π cs vs) {b base bs : Nat} (hp : π p.1 = some (b, base, bs)) {σ' : St} {v' : AV} (h : storeCellsA p cs v σ = .st v' σ') :
    v' = v ∧ (storeCells ⟨b, base + p.2, none⟩ vs).run cx.P w = .ok () (w.setCells b (base + p.2) vs) ∧ R π σ' (w.setCells b (base + p.2) vs) ∧ Go π σ w π σ' (w.setCells b (base + p.2) vs) := by
  unfold storeCellsA at h
  split at h
  · rename_i l e ex hi
    split at h
    · rename_i l' ho
      cases h
      obtain ⟨g1, g2, g3⟩ := hR.write hi ho hv hp
      exact ⟨rfl, g1 _, g2, g3⟩
    · cases h
  · cases h
theorem storeCells_cases (p : Nat × Nat) (cs : List CV) (v : AV) (σ : St) : storeCellsA p cs v σ = .no ∨ ∃ σ', storeCellsA p cs v σ = .st v σ' := by
  unfold storeCellsA
  split
  · split
    · exact .inr ⟨_, rfl⟩
    · exact .inl rfl
  · exact .inl rfl

theorem RT.length {π : Pl} : ∀ {l : List AV} {vs : List Value}, RT π l vs → l.length = vs.length
  | [], [], _ => rfl
  | _ :: _, _ :: _, h => by simp only [RT] at h; simp [RT.length h.2]
  | [], _ :: _, h => by simp [RT] at h
  | _ :: _, [], h => by simp [RT] at h
theorem RT.cons {π : Pl} {c : AV} {l : List AV} {vs : Array Value} (h : RT π (c :: l) vs.toList) : ∃ v r, vs.toList = v :: r ∧ RA π c v ∧ RT π l r := by
  cases hv : vs.toList with
  | nil => rw [hv] at h; simp [RT] at h
  | cons v r => rw [hv] at h; simp only [RT] at h; exact ⟨v, r, rfl, h.1, h.2⟩
theorem get0 {vs : Array Value} {v : Value} {r : List Value} (h : vs.toList = v :: r) : vs[0]? = some v := by
  have : vs.toList[0]? = some v := by rw [h]; rfl
  simpa using this
theorem get1 {vs : Array Value} {v u : Value} {r : List Value} (h : vs.toList = v :: u :: r) : vs[1]? = some u := by
  have : vs.toList[1]? = some u := by rw [h]; rfl
  simpa using this
theorem tget0 {ts : Array TypeId} {t : TypeId} {r : List TypeId} (h : ts.toList = t :: r) : ts[0]? = some t := by
  have : ts.toList[0]? = some t := by rw [h]; rfl
  simpa using this

/-! Builtins. -/
theorem len_ok (hR : R π σ w) {ts : Array TypeId} {ty : TypeId} {as : List AV} {vs : Array Value} (h : RT π as vs.toList) : Yields cx.P π σ w (Builtin.len_ ts ty vs) (lenB cx ts.toList as σ) := by
  unfold lenB
  split
  · rename_i t ts' x as' ht
    obtain ⟨X, r, hv, hx, hr⟩ := h.cons
    have e0 := tget0 ht
    have e1 := get0 hv
    split
    · rename_i s hu
      rw [str_of hx] at e1
      rw [lenN_eq]
      refine yields_val (x := .int .i64 s.size) ?_ (RA_int _ _)
      simp [Builtin.len_, e0, e1, und_run hu, goInt]
    · rename_i e p n c hu
      refine yields_val (x := .int .i64 n) ?_ (RA_int _ _)
      cases p with
      | none => simp only [RA] at hx; obtain ⟨rfl, rfl⟩ := hx; simp [Builtin.len_, e0, e1, und_run hu, goInt]
      | some p => simp only [RA] at hx; obtain ⟨_, _, _, _, _, _, rfl, _⟩ := hx; simp [Builtin.len_, e0, e1, und_run hu, goInt]
    · rename_i n e hu
      refine yields_val (x := .int .i64 n) ?_ (RA_int _ _)
      simp [Builtin.len_, e0, e1, und_run hu, goInt]
    · rename_i k e hu
      have e2 : X = .map none := by simpa [RA, RC] using hx
      subst e2
      refine yields_val (x := .int .i64 0) ?_ (RA_int _ _)
      simp [Builtin.len_, e0, e1, und_run hu, goInt]
    · rename_i k e r' hu
      split
      · rename_i es c hi
        obtain ⟨x', hp, hblk⟩ := hR.blk r' _ hi
        simp only [RA] at hx
        obtain ⟨y, hp', rfl⟩ := hx
        rw [hp] at hp'; cases hp'
        obtain ⟨ms, h1, h2⟩ := hblk
        have hlen : ∀ {es : List (AV × AV × Nat)} {ms : List MapEntry}, REs π es ms → es.length = ms.length := by
          intro es
          induction es with
          | nil => intro ms h; cases ms with
            | nil => rfl
            | cons _ _ => exact h.elim
          | cons e es ih => intro ms h; cases ms with
            | nil => exact h.elim
            | cons _ _ => simp [ih h.2]
        have hl := hlen h2
        refine yields_val (x := .int .i64 ms.size) ?_ (by rw [lenN_eq, hl]; exact RA_int _ _)
        simp [Builtin.len_, e0, e1, und_run hu, goInt, getObj, Sem.run, h1]
      · trivial
    · trivial
  · trivial

theorem minA_ok {gt : Bool} {x y : AV} {X Y : Value} {k : IntKind} {n : Int} (h : minA gt x y = .one (.int k n)) (hx : RA π x X) (hy : RA π y Y) :
    ((bif gt then Builtin.max2 X Y else Builtin.min2 X Y) : Sem Value).run cx.P w = .ok (.int k n) w := by
  unfold minA at h
  split at h
  · rename_i k1 a k2 b
    rw [int_of hx, int_of hy]
    cases h
    cases gt
    · simp only [cond_false, intLt_ok, Builtin.min2, Sem.run_pure]
      by_cases hh : b < a
      · simp [hh]
      · simp [hh]
    · simp only [cond_true, intLt_ok, Builtin.max2, Sem.run_pure]
      by_cases hh : a < b
      · simp [hh]
      · simp [hh]
  · cases h
theorem foldA_ok {gt : Bool} : ∀ (as : List AV) (vs : List Value) (x : AV) (X : Value) (k : IntKind) (n : Int), foldA (minA gt) x as = .one (.int k n) → RA π x X → RT π as vs →
    (vs.foldlM (fun u v => (bif gt then Builtin.max2 u v else Builtin.min2 u v)) X : Sem Value).run cx.P w = .ok (.int k n) w
  | [], [], x, X, k, n, h, hx, _ => by simp only [foldA] at h; subst h; rw [int_of hx]; rfl
  | y :: as, v :: vs, x, X, k, n, h, hx, hr => by
    simp only [RT] at hr
    simp only [foldA] at h
    have hne : ∃ k' n', minA gt x y = .one (.int k' n') := by
      unfold minA at h ⊢
      split
      · exact ⟨_, _, rfl⟩
      · exfalso
        have : ∀ (as : List AV), foldA (minA gt) .bad as = .bad := by
          intro as; induction as with
          | nil => rfl
          | cons a as ih => rw [foldA]; have : minA gt .bad a = .bad := rfl
                            rw [this]; exact ih
        simp only at h
        have e := this as
        unfold minA at e
        rw [e] at h; cases h
    obtain ⟨k', n', e⟩ := hne
    rw [e] at h
    simp only [List.foldlM_cons, Sem.run_bind, minA_ok e hx hr.1, Result.andThen_ok]
    exact foldA_ok as vs _ _ k n h (RA_int _ _) hr.2
  | [], _ :: _, _, _, _, _, _, _, h => by simp [RT] at h
  | _ :: _, [], _, _, _, _, _, _, h => by simp [RT] at h
theorem min_ok {ts : Array TypeId} {ty : TypeId} {as : List AV} {vs : Array Value} (h : RT π as vs.toList) : Yields cx.P π σ w (Builtin.min_ ts ty vs) (minO false as) := by
  unfold minO
  split
  · rename_i x as'
    obtain ⟨X, r, hv, hx, hr⟩ := h.cons
    split
    · rename_i k n hf
      have := foldA_ok (cx := cx) (w := w) (gt := false) as' r x X k n hf hx hr
      refine yields_val (x := .int k n) ?_ (RA_int _ _)
      simp only [Builtin.min_, hv]
      exact this
    · trivial
  · trivial
theorem max_ok {ts : Array TypeId} {ty : TypeId} {as : List AV} {vs : Array Value} (h : RT π as vs.toList) : Yields cx.P π σ w (Builtin.max_ ts ty vs) (minO true as) := by
  unfold minO
  split
  · rename_i x as'
    obtain ⟨X, r, hv, hx, hr⟩ := h.cons
    split
    · rename_i k n hf
      have := foldA_ok (cx := cx) (w := w) (gt := true) as' r x X k n hf hx hr
      refine yields_val (x := .int k n) ?_ (RA_int _ _)
      simp only [Builtin.max_, hv]
      exact this
    · trivial
  · trivial
end Go.Run

namespace Go.Run
variable {cx : Cx} {π : Pl} {σ : St} {w : World} {env : Env} {a : Act}

/-- a block is known by another number from here on -/
theorem R.remap (h : R π σ w) {i : Nat} {bi blk : Blk} (hi : σ.get i = some bi) (hr : bi.isRo = false) {x y : Nat × Nat × Nat} (hx : π i = some x) (hy : y.1 = x.1) {w' : World} (hs : w'.heap.size = w.heap.size) (ho : ∀ b, b ≠ x.1 → w'.heap[b]? = w.heap[b]?) (hb : RB π w' y blk) (hsame : Same w w') :
    R (π.upd σ.next y) ((σ.kill i).push blk) w' ∧ Go π σ w (π.upd σ.next y) ((σ.kill i).push blk) w' := by
  have h0 := h.next_none (Nat.le_refl _)
  have hle := Pl.le_upd h0 y
  have hin := h.lt i x hx
  have hget : ∀ {j bj}, ((σ.kill i).push blk).get j = some bj → (j = σ.next ∧ bj = blk) ∨ (j ≠ σ.next ∧ j ≠ i ∧ σ.get j = some bj) := fun {j bj} hj => by
    rw [St.get_push] at hj
    by_cases e : j = (σ.kill i).next
    · rw [if_pos e] at hj; cases hj; exact .inl ⟨e, rfl⟩
    · rw [if_neg e, St.get_kill] at hj
      by_cases e2 : j = i
      · rw [if_pos e2] at hj; cases hj
      · rw [if_neg e2] at hj; exact .inr ⟨e, e2, hj⟩
  refine ⟨⟨fun j bj hj => ?_, fun j k bj bk u v hj hk hro hu hv hne => ?_, fun j u hu => ?_⟩, ⟨fun j hj => Pl.upd_other _ _ (by omega), Nat.le_succ _, by omega, fun b hb' hn => ho b fun e => hn ⟨i, bi, x, hi, hr, hx, e.symm⟩, fun b hb' hown => ?_, fun b hb' hown => ?_, hsame⟩⟩
  · rcases hget hj with ⟨rfl, rfl⟩ | ⟨e1, e2, hj⟩
    · exact ⟨y, Pl.upd_same _ _ _, hb.mono hle⟩
    · obtain ⟨u, hu, hbj⟩ := h.blk j bj hj
      exact ⟨u, by rw [Pl.upd_other _ _ e1]; exact hu, (hbj.congr (ho _ (h.inj2 j i bj bi u x hj hi hr hu hx e2))).mono hle⟩
  · rcases hget hj with ⟨hj1, hj2⟩ | ⟨e1, e2, hj2⟩
    · subst hj1
      rw [Pl.upd_same] at hu; cases hu
      rcases hget hk with ⟨hk1, hk2⟩ | ⟨f1, f2, hk2⟩
      · exact absurd hk1.symm hne
      · rw [Pl.upd_other _ _ f1] at hv
        rw [hy]; exact fun e => h.inj2 k i bk bi v x hk2 hi hr hv hx f2 e.symm
    · rw [Pl.upd_other _ _ e1] at hu
      rcases hget hk with ⟨hk1, hk2⟩ | ⟨f1, f2, hk2⟩
      · subst hk1
        rw [Pl.upd_same] at hv; cases hv
        rw [hy]; exact h.inj2 j i bj bi u x hj2 hi hr hu hx e2
      · rw [Pl.upd_other _ _ f1] at hv
        exact h.inj j k bj bk u v hj2 hk2 hro hu hv hne
  · by_cases e : j = σ.next
    · subst e; exact Nat.lt_succ_self _
    · rw [Pl.upd_other _ _ e] at hu; exact Nat.lt_succ_of_lt (h.lt j u hu)
  · obtain ⟨j, bj, u, hj, hro, hu, rfl⟩ := hown
    rcases hget hj with ⟨rfl, rfl⟩ | ⟨e1, e2, hj⟩
    · rw [Pl.upd_same] at hu; cases hu; exact ⟨i, bi, x, hi, hr, hx, hy.symm⟩
    · rw [Pl.upd_other _ _ e1] at hu; exact ⟨j, bj, u, hj, hro, hu, rfl⟩
  · obtain ⟨j, bj, u, hj, hu, rfl⟩ := hown
    rcases hget hj with ⟨rfl, rfl⟩ | ⟨e1, e2, hj⟩
    · rw [Pl.upd_same] at hu; cases hu; exact ⟨i, bi, x, hi, hx, hy.symm⟩
    · rw [Pl.upd_other _ _ e1] at hu; exact ⟨j, bj, u, hj, hu, rfl⟩

theorem growBy_le (need : Nat) : ∀ (rounds c : Nat), c ≤ 2 * need + 192 → Builtin.growBy need rounds c ≤ 2 * need + 192
  | 0, c, h => by simpa [Builtin.growBy] using h
  | r + 1, c, h => by
    simp only [Builtin.growBy]
    split
    · exact h
    · exact growBy_le need r _ (by omega)
theorem nextslicecap_le (need cp : Nat) (h : cp < need) : Builtin.nextslicecap need cp ≤ 2 * need + 192 := by
  unfold Builtin.nextslicecap
  split
  · omega
  · split
    · omega
    · exact growBy_le _ _ _ (by omega)
theorem zeroCells_size (z : Array Value) (n : Nat) : (Builtin.zeroCells z n).size = n * z.size := by simp [Builtin.zeroCells]
theorem rowOne {e : TypeId} {sz : Nat} {z : List CV} (h : rowOf cx e sz 1 = some z) (π : Pl) (w : World) : ∃ v, (zeroValue e).run cx.P w = .ok v w ∧ v.cells.size = sz := by
  unfold rowOf at h
  have : Nat.beq 1 0 = false := rfl
  rw [this] at h
  simp only [cond_false] at h
  split at h
  · rename_i z0 hz
    rw [beq_eq] at h
    by_cases hl : lenN z0 = sz
    · obtain ⟨v, hv, hr⟩ := zeroCells_run hz π w
      refine ⟨v, hv, ?_⟩
      have := hr.length
      rw [lenN_eq] at hl
      simp at this; omega
    · rw [decide_eq_false hl] at h; cases h
  · cases h

theorem noInt_run {ts : Array TypeId} {t : TypeId} {r : List TypeId} (h : ts.toList = t :: r) (hn : noInt cx r = true) (w : World) :
    (match ts[1]? with | some xType => do pure ((← underlying xType) matches .int _) | none => pure false : Sem Bool).run cx.P w = .ok false w := by
  cases r with
  | nil =>
    have : ts[1]? = none := by
      have : ts.toList[1]? = none := by rw [h]; rfl
      simpa using this
    rw [this]; rfl
  | cons u r =>
    have : ts[1]? = some u := by
      have : ts.toList[1]? = some u := by rw [h]; rfl
      simpa using this
    rw [this]
    simp only [noInt] at hn
    split at hn
    · cases hn
    · cases hn
    · rename_i d h1 h2
      cases hu : und cx u with
      | none => exact absurd hu h2
      | some d =>
        simp only [Sem.run_bind, und_run hu, Result.andThen_ok]
        cases d <;> first | rfl | exact absurd hu (h1 _)
end Go.Run

namespace Go.Run
variable {cx : Cx} {π : Pl} {σ : St} {w : World} {env : Env} {a : Act}

theorem RT.cons' {π : Pl} {c : AV} {l : List AV} {vs : List Value} (h : RT π (c :: l) vs) : ∃ v r, vs = v :: r ∧ RA π c v ∧ RT π l r := by
  cases vs with
  | nil => simp [RT] at h
  | cons v r => simp only [RT] at h; exact ⟨v, r, rfl, h.1, h.2⟩

def NoInt (cx : Cx) (o : Option TypeId) : Prop := o = none ∨ ∃ u d, o = some u ∧ und cx u = some d ∧ ∀ k, d ≠ .int k
theorem noInt_cases {ts : Array TypeId} {t : TypeId} {r : List TypeId} (h : ts.toList = t :: r) (hn : noInt cx r = true) : NoInt cx ts[1]? := by
  have hg : ts[1]? = r[0]? := by
    have : ts.toList[1]? = r[0]? := by rw [h]; rfl
    simpa using this
  rw [hg]
  cases r with
  | nil => exact .inl rfl
  | cons u r =>
    simp only [noInt] at hn
    split at hn
    · cases hn
    · cases hn
    · rename_i h1 h2
      cases hu : und cx u with
      | none => exact absurd hu h2
      | some d => exact .inr ⟨u, d, rfl, hu, fun k e => h1 k (by rw [hu, e])⟩
theorem noInt_false {d : TypeDesc} (h : ∀ k, d ≠ .int k) : (match d with | .int _ => true | _ => false) = false := by
  cases d <;> first | rfl | exact absurd rfl (h _)

/-- append, where there is room -/
theorem append_in {ts : Array TypeId} {vs : Array Value} {ty t e : TypeId} {inf : TypeInfo} {n len cp : Nat} {base : Option Addr} {X : Value} {news : Array Value}
    (e0 : ts[0]? = some t) (ev0 : vs[0]? = some (.slice base len cp)) (ev1 : vs[1]? = some X) (hu : und cx t = some (.slice e)) (hi : cx.P.info? e = some inf)
    (hz : NoInt cx ts[1]?)
    (hl : (Builtin.lenOf X).run cx.P w = .ok n w) (hf : (Builtin.firstCells inf.size n X).run cx.P w = .ok news w) (hle : len + n ≤ cp) :
    (Builtin.append_ ts ty vs).run cx.P w = ((match base with | some a => storeCells (a.add (len * inf.size)) news.toList | none => pure () : Sem Unit).run cx.P w).andThen fun _ w' => .ok (.slice base (len + n) cp) w' := by
  have hs : (sizeOf e).run cx.P w = .ok inf.size w := size_run (by simp [size, hi]) w
  rcases hz with hz | ⟨u, d, hz, hud, hd⟩
  · simp only [Builtin.append_, e0, ev0, ev1, hz, Sem.run_bind, und_run hu, Result.andThen_ok, hs, Sem.run_pure, Bool.false_eq_true, if_false, hl, Bool.not_false, if_true, Sem.run_ite, hle, hf]
    cases base with
    | none => simp
    | some a => simp
  · simp only [Builtin.append_, e0, ev0, ev1, hz, Sem.run_bind, und_run hu, und_run hud, noInt_false hd, Result.andThen_ok, hs, Sem.run_pure, Bool.false_eq_true, if_false, hl, Bool.not_false, if_true, Sem.run_ite, hle, hf]
    cases base with
    | none => simp
    | some a => simp

/-- append, where there is none -/
theorem append_grow {ts : Array TypeId} {vs : Array Value} {ty t e : TypeId} {inf : TypeInfo} {n len cp : Nat} {base : Option Addr} {X z : Value} {olds news : Array Value}
    (e0 : ts[0]? = some t) (ev0 : vs[0]? = some (.slice base len cp)) (ev1 : vs[1]? = some X) (hu : und cx t = some (.slice e)) (hi : cx.P.info? e = some inf)
    (hz : NoInt cx ts[1]?)
    (hl : (Builtin.lenOf X).run cx.P w = .ok n w) (hf : (Builtin.firstCells inf.size n X).run cx.P w.drew = .ok news w.drew) (ho : (Builtin.firstCells inf.size len (.slice base len cp)).run cx.P w.drew = .ok olds w.drew)
    (hzv : (zeroValue e).run cx.P w.drew = .ok z w.drew)
    (hle : ¬ (len + n ≤ cp)) (hb : (2 * (len + n) + 2048) * inf.bytes ≤ 140737488355328) (hn : len + n ≤ 4611686018427387904) :
    (Builtin.append_ ts ty vs).run cx.P w = .ok (.slice (some ⟨w.heap.size, 0, none⟩) (len + n) (grownCap w (len + n) cp e))
      (w.drew.alloc (.cells (olds ++ news ++ Builtin.zeroCells z.cells (grownCap w (len + n) cp e - (len + n))) e)) := by
  have hs : (sizeOf e).run cx.P w = .ok inf.size w := size_run (by simp [size, hi]) w
  have hti : (typeInfo e).run cx.P w = .ok inf w := by simp [typeInfo, hi]
  have hti' : (typeInfo e).run cx.P w.drew = .ok inf w.drew := by simp [typeInfo, hi]
  have hmax : IntKind.i64.max = 9223372036854775807 := by decide
  have c1 : ¬ (((len + n : Nat) : Int) > IntKind.i64.max) := by rw [hmax]; omega
  have hcap := nextslicecap_le (len + n) cp (by omega)
  have c2 : ¬ (Builtin.nextslicecap (len + n) cp * inf.bytes > 2 ^ 48) := by
    have : Builtin.nextslicecap (len + n) cp * inf.bytes ≤ (2 * (len + n) + 2048) * inf.bytes := Nat.mul_le_mul_right _ (by omega)
    omega
  have hq : ∀ (need old : Nat) (e : TypeId), (Question.appendCap need old e).forced = false := fun _ _ _ => rfl
  have hch : (choose (.appendCap (len + n) cp e)).run cx.P w = .ok (grownCap w (len + n) cp e) w.drew := by simp [hq, grownCap]
  rcases hz with hz | ⟨u, d, hz, hud, hd⟩
  · simp only [Builtin.append_, e0, ev0, ev1, hz, Sem.run_bind, und_run hu, Result.andThen_ok, hs, Sem.run_pure, Bool.false_eq_true, if_false, hl, Bool.not_false, if_true, Sem.run_ite, hle, hti, c1, c2, false_and, hch, hti', run_askRoom, ho, hf, hzv]
    simp [newRow, World.alloc_eq]
    rfl
  · simp only [Builtin.append_, e0, ev0, ev1, hz, Sem.run_bind, und_run hu, und_run hud, noInt_false hd, Result.andThen_ok, hs, Sem.run_pure, Bool.false_eq_true, if_false, hl, Bool.not_false, if_true, Sem.run_ite, hle, hti, c1, c2, false_and, hch, hti', run_askRoom, ho, hf, hzv]
    simp [newRow, World.alloc_eq]
    rfl

theorem R.heap {w' : World} (h : R π σ w) (e : w'.heap = w.heap) : R π σ w' :=
  ⟨fun i b hi => let ⟨x, hx, hb⟩ := h.blk i b hi; ⟨x, hx, hb.congr (by rw [e])⟩, h.inj, h.lt⟩
theorem more_drew (w : World) (o : Obj) : More w (w.drew.alloc o) := ⟨(more_alloc w.drew o).size, (more_alloc w.drew o).old, ⟨rfl, rfl, rfl⟩⟩

theorem append_new {e : TypeId} {l : List CV} {os ns : Array Value} {z : Value} {sz need g : Nat} (h : RL π l (os ++ ns).toList) (hsz : 0 < sz) (hl : (os ++ ns).size = need * sz) (hz : z.cells.size = sz) (hg : need ≤ g) :
    NewOk π w (w.drew.alloc (.cells (os ++ ns ++ Builtin.zeroCells z.cells (g - need)) e)) (w.heap.size, 0, g * sz) (.cells l e false) (fun i => .one (.slice (some (i, 0)) need (.to sz))) (.slice (some ⟨w.heap.size, 0, none⟩) need g) where
  at_ := rfl
  more := more_drew _ _
  blk i hi := by
    have hlen := h.length
    have hs : (os ++ ns ++ Builtin.zeroCells z.cells (g - need)).size = g * sz := by
      rw [Array.size_append, hl, zeroCells_size, hz, ← Nat.add_mul]; congr 1; omega
    refine ⟨_, _, heap_alloc w.drew _, hs, ?_, fun h => (by cases h), fun j _ => by simp, _, h.mono (Pl.le_upd hi _), fun j v hj => ?_⟩
    · have : need * sz ≤ g * sz := Nat.mul_le_mul_right _ hg
      have e2 : l.length = need * sz := by rw [hlen, Array.length_toList, hl]
      show 0 + l.length ≤ g * sz
      omega
    · simp only [Nat.zero_add]
      have hj' : (os ++ ns)[j]? = some v := by rw [← Array.getElem?_toList]; exact hj
      have hlt : j < (os ++ ns).size := by
        rcases Nat.lt_or_ge j (os ++ ns).size with h | h
        · exact h
        · rw [Array.getElem?_eq_none h] at hj'; cases hj'
      rw [Array.getElem?_append_left hlt]; exact hj'
  val i _ := slice_new_val hsz hg i

theorem append_to_ok (hR : R π σ w) {ts : Array TypeId} {vs : Array Value} {ty t e : TypeId} {inf : TypeInfo} {n len : Nat} {cap : Cap} {p : Option (Nat × Nat)} {S X z : Value} {new : List CV} {news news' : List Value}
    (e0 : ts[0]? = some t) (ev0 : vs[0]? = some S) (ev1 : vs[1]? = some X) (hu : und cx t = some (.slice e)) (hi : cx.P.info? e = some inf) (hz : NoInt cx ts[1]?) (hs : RA π (.one (.slice p len cap)) S)
    (hl : (Builtin.lenOf X).run cx.P w = .ok n w) (hf : (Builtin.firstCells inf.size n X).run cx.P w = .ok news.toArray w) (hnr : RL π new news) (hnl : news.length = n * inf.size)
    (hf' : (Builtin.firstCells inf.size n X).run cx.P w.drew = .ok news'.toArray w.drew) (hnr' : RL π new news') (hnl' : news'.length = n * inf.size)
    (hzv : (zeroValue e).run cx.P w.drew = .ok z w.drew) (hzs : z.cells.size = inf.size) (hsz : inf.size ≠ 0)
    (hb : (2 * (len + n) + 2048) * inf.bytes ≤ 140737488355328) (hn : len + n ≤ 4611686018427387904) (h0 : n ≠ 0) :
    Yields cx.P π σ w (Builtin.append_ ts ty vs) (appendTo e inf.size p len cap n new σ) := by
  have hRd : R π σ w.drew := hR.heap rfl
  unfold appendTo
  cases p with
  | none =>
    simp only [RA] at hs
    obtain ⟨rfl, rfl⟩ := hs
    have hg := grownCap_ge w (0 + n) 0 e
    have ho : (Builtin.firstCells inf.size 0 (.slice none 0 0)).run cx.P w.drew = .ok #[] w.drew := by simp [Builtin.firstCells]
    have hrun := append_grow (ty := ty) e0 ev0 ev1 hu hi hz hl hf' ho hzv (by omega) hb hn
    have hnew := append_new (π := π) (w := w) (e := e) (l := new) (os := #[]) (ns := news'.toArray) (z := z) (sz := inf.size) (need := 0 + n) (g := grownCap w (0 + n) 0 e) (by simpa using hnr') (by omega) (by simp [hnl']) hzs hg
    obtain ⟨g1, g2, g3⟩ := hR.push hnew
    exact ⟨_, _, _, hrun, g1, g2, g3⟩
  | some p =>
    simp only [RA] at hs
    obtain ⟨b, base, bs, ad, cp, hp, rfl, hle, hcap⟩ := hs
    simp only
    split
    · trivial
    · rename_i c xx hc
      obtain ⟨hc1, hc2⟩ := cap_least hR hc hp hcap
      rw [ble_eq]
      by_cases hin : Nat.add len n ≤ c
      · rw [decide_eq_true hin]
        simp only [cond_true]
        have hin' : len + n ≤ cp := Nat.le_trans hin hc1
        have had : ad = base + p.2 := slice_at (l := len + n) (b := b) hcap hin' (by omega)
        rcases storeCells_cases (p.1, Nat.add p.2 (Nat.mul len inf.size)) new (.one (.slice (some p) (Nat.add len n) cap)) σ with hst | ⟨σ', hst⟩
        · rw [hst]; trivial
        · obtain ⟨_, k1, k2, k3⟩ := storeCells_ok (cx := cx) hR (p := (p.1, Nat.add p.2 (Nat.mul len inf.size))) hnr hp hst
          rw [hst]
          refine ⟨.slice (some ⟨b, ad, none⟩) (len + n) cp, _, π, ?_, k2, ?_, k3⟩
          · rw [append_in e0 ev0 ev1 hu hi hz hl hf hin']
            have e1 : (⟨b, ad, none⟩ : Addr).add (len * inf.size) = ⟨b, base + Nat.add p.2 (Nat.mul len inf.size), none⟩ := by
              rw [Addr.add_mid, had]; congr 1; show base + p.2 + len * inf.size = base + (p.2 + len * inf.size); omega
            simp only [e1, List.toList_toArray]
            rw [k1]; rfl
          · simp only [RA]; exact ⟨b, base, bs, ad, cp, hp, rfl, hin', hcap⟩
      · rw [decide_eq_false hin]
        simp only [cond_false]
        cases hx : (xx || elemIs σ p.1 e)
        · trivial
        · simp only [cond_true]
          split
          · trivial
          · rename_i old hold
            have hsS : RA π (.one (.slice (some p) len cap)) (.slice (some ⟨b, ad, none⟩) len cp) := by simp only [RA]; exact ⟨b, base, bs, ad, cp, hp, rfl, hle, hcap⟩
            by_cases hroom : len + n ≤ cp
            · have hxx : xx = false := by
                cases xx with
                | false => rfl
                | true => have := hc2 rfl; exact absurd (this ▸ hroom) hin
              subst hxx
              simp only [Bool.false_or, elemIs] at hx
              split at hx
              · rename_i l e' ex hi'
                have he : e' = e := Nat.eq_of_beq_eq_true hx
                subst he
                obtain ⟨⟨b', base', sz'⟩, hp', hblk⟩ := hR.blk p.1 _ hi'
                rw [hp] at hp'; cases hp'
                obtain ⟨z', rfl, rfl⟩ : ∃ z', cap = .to z' ∧ z' = inf.size := by
                  cases cap with
                  | ex c => simp [capOf] at hc
                  | to z' =>
                    simp only [capOf, beq_eq] at hc
                    by_cases hzz : z' = inf.size
                    · exact ⟨z', rfl, hzz⟩
                    · rw [decide_eq_false hzz] at hc; cases hc
                obtain ⟨c1, c2, c3, c4⟩ := hcap
                have had : ad = base + p.2 := by rcases c4 with h | h <;> omega
                subst had
                have hmul : (len + n) * inf.size ≤ cp * inf.size := Nat.mul_le_mul_right _ hroom
                rw [Nat.add_mul] at hmul
                obtain ⟨olds, o1, o2, o3⟩ : ∃ olds : List Value, RL π old olds ∧ olds.length = len * inf.size ∧ ∀ j v, olds[j]? = some v → w.cell? ⟨b, base + p.2 + j, none⟩ = some v := by
                  unfold firstA at hold
                  simp only [beq_eq] at hold
                  by_cases hl0 : len = 0
                  · subst hl0; simp at hold; subst hold
                    exact ⟨[], trivial, by simp, fun j v h => by simp at h⟩
                  · rw [decide_eq_false hl0] at hold
                    simp only [cond_false, hi'] at hold
                    exact hblk.read rfl hold
                obtain ⟨cs, frz, h1, h2, h3, h4, h5, us, h6, h7⟩ := hblk
                simp only at h1 h2 h5
                obtain ⟨cs', q1, q2, q3, q4⟩ := heap_setCells b e' frz news (base + p.2 + len * inf.size) w cs h1 (by omega)
                have hblt : b < w.heap.size := hR.lt_size hi' hp
                have hrun := run_storeCells_cells (P := cx.P) b (base + p.2 + len * inf.size) news 0 w (fun j hj => by rw [cell_of h1]; simp; omega) (fun j hj => frozen_of h1 (h5 _ (by omega))) hnr.oneCell
                simp only [Nat.add_zero] at hrun
                have hRB : RB π (w.setCells b (base + p.2 + len * inf.size) news) (b, base + p.2, bs) (.cells (old ++ new) e' false) := by
                  have l1 := o1.length
                  have l2 := hnr.length
                  refine ⟨cs', frz, q1, by rw [q2]; exact h2, by simp; omega, fun h => (by cases h), h5, olds ++ news, o1.append hnr, fun j v hj => ?_⟩
                  simp only
                  by_cases hjl : j < olds.length
                  · rw [List.getElem?_append_left hjl] at hj
                    rw [q4 _ (.inl (by omega))]
                    have := o3 j v hj
                    rw [cell_of h1] at this; exact this
                  · rw [List.getElem?_append_right (by omega)] at hj
                    have := q3 _ _ hj
                    rwa [o2, show base + p.2 + len * inf.size + (j - len * inf.size) = base + p.2 + j by omega] at this
                have hoth : ∀ b', b' ≠ b → (w.setCells b (base + p.2 + len * inf.size) news).heap[b']? = w.heap[b']? := fun b' hne => by
                  rcases Nat.lt_or_ge b' w.heap.size with hh | hh
                  · exact World.heap_setCells_other w b _ news hh hne
                  · rw [Array.getElem?_eq_none hh, Array.getElem?_eq_none (by rw [size_setCells]; exact hh)]
                obtain ⟨r1, r2⟩ := hR.remap (y := (b, base + p.2, bs)) hi' rfl hp rfl (size_setCells _ _ _ _) hoth hRB (same_setCells _ _ _ _)
                refine ⟨.slice (some ⟨b, base + p.2, none⟩) (len + n) cp, _, _, ?_, r1, ?_, r2⟩
                · rw [append_in e0 ev0 ev1 hu hi hz hl hf hroom]
                  simp only [Addr.add_mid, List.toList_toArray]
                  rw [hrun]; rfl
                · simp only [RA]
                  exact ⟨b, base + p.2, bs, base + p.2, cp, Pl.upd_same _ _ _, rfl, hroom, c1, by simpa using c2, by simpa using c3, .inl (by simp)⟩
              · cases hx
            · obtain ⟨olds, ho, hor, hol⟩ := first_ok (cx := cx) hRd hold hsS (fun p' l' c' e' => by cases e'; exact Nat.le_refl _)
              have hg := grownCap_ge w (len + n) cp e
              have hrun := append_grow (ty := ty) e0 ev0 ev1 hu hi hz hl hf' ho hzv hroom hb hn
              have hnew := append_new (π := π) (w := w) (e := e) (l := old ++ new) (os := olds.toArray) (ns := news'.toArray) (z := z) (sz := inf.size) (need := len + n) (g := grownCap w (len + n) cp e) (by simpa using hor.append hnr') (by omega) (by simp [hnl', hol, Nat.add_mul]) hzs hg
              cases xx with
              | true =>
                obtain ⟨g1, g2, g3⟩ := hR.push hnew
                exact ⟨_, _, _, hrun, g1, g2, g3⟩
              | false =>
                obtain ⟨k1, k2⟩ := hR.kill p.1
                obtain ⟨g1, g2, g3⟩ := k1.push hnew
                exact ⟨_, _, _, hrun, g1, g2, k2.trans g3⟩

theorem append_ok (hR : R π σ w) {ts : Array TypeId} {ty : TypeId} {as : List AV} {vs : Array Value} (h : RT π as vs.toList) : Yields cx.P π σ w (Builtin.append_ ts ty vs) (appendA cx ts.toList as σ) := by
  unfold appendA
  split
  · rename_i t ts' s x as' ht
    obtain ⟨S, r, hv, hs, hr⟩ := h.cons
    obtain ⟨X, r', rfl, hx, hr'⟩ := hr.cons'
    have e0 := tget0 ht
    have ev0 := get0 hv
    have ev1 := get1 hv
    split
    · rename_i p len cap
      split
      · rename_i e hu
        split
        · rename_i inf n hi hn
          cases hc : (noInt cx ts' && !(Nat.beq inf.size 0) && Nat.ble (Nat.mul (Nat.add (Nat.mul 2 (Nat.add len n)) 2048) inf.bytes) 140737488355328 && Nat.ble (Nat.add len n) 4611686018427387904)
          · trivial
          · simp only [cond_true]
            simp only [Bool.and_eq_true, ble_eq, beq_eq, Bool.not_eq_true', decide_eq_true_eq, decide_eq_false_iff_not] at hc
            obtain ⟨⟨⟨hno, hsz⟩, hbytes⟩, hneed⟩ := hc
            have hbytes' : (2 * (len + n) + 2048) * inf.bytes ≤ 140737488355328 := hbytes
            have hneed' : len + n ≤ 4611686018427387904 := hneed
            have hz := noInt_cases ht hno
            have hlX := lenA_ok (cx := cx) (w := w) hn hx
            have hxl : ∀ p l c, x = .one (.slice p l c) → n ≤ l := fun p l c e => by subst e; cases hn; exact Nat.le_refl _
            split
            · trivial
            · trivial
            · rename_i new z1 hnew hrow
              obtain ⟨news, hf, hnr, hnl⟩ := first_ok (cx := cx) hR hnew hx hxl
              have hRd : R π σ w.drew := hR.heap rfl
              obtain ⟨news', hf', hnr', hnl'⟩ := first_ok (cx := cx) hRd hnew hx hxl
              obtain ⟨z, hzv, hzs⟩ := rowOne (cx := cx) hrow π w.drew
              rw [beq_eq]
              by_cases h0 : n = 0
              · rw [decide_eq_true h0]; subst h0
                have hnn : news = [] := List.length_eq_zero_iff.1 (by simpa using hnl)
                subst hnn
                cases p with
                | none =>
                  have hs' := hs
                  simp only [RA] at hs
                  obtain ⟨rfl, rfl⟩ := hs
                  refine yields_val (x := .slice none 0 0) ?_ hs'
                  rw [append_in e0 ev0 ev1 hu hi hz hlX hf (Nat.le_refl _)]; rfl
                | some p =>
                  have hs' := hs
                  simp only [RA] at hs
                  obtain ⟨b, base, bs, ad, cp, hp, rfl, hle, hcap⟩ := hs
                  refine yields_val (x := .slice (some ⟨b, ad, none⟩) len cp) ?_ hs'
                  rw [append_in e0 ev0 ev1 hu hi hz hlX hf (by omega)]; rfl
              · rw [decide_eq_false h0]
                simp only [cond_false]
                exact append_to_ok hR e0 ev0 ev1 hu hi hz hs hlX hf hnr hnl hf' hnr' hnl' hzv hzs hsz hbytes' hneed' h0
        · trivial
      · trivial
    · trivial
  · trivial
end Go.Run

namespace Go.Run
variable {cx : Cx} {π : Pl} {σ : St} {w : World} {env : Env} {a : Act}

theorem cap_ok (hR : R π σ w) {ts : Array TypeId} {ty : TypeId} {as : List AV} {vs : Array Value} (h : RT π as vs.toList) : Yields cx.P π σ w (Builtin.cap_ ts ty vs) (capB cx ts.toList as σ) := by
  unfold capB
  split
  · rename_i t ts' p len c as' ht
    obtain ⟨X, r, hv, hx, hr⟩ := h.cons
    have e0 := tget0 ht
    have e1 := get0 hv
    split
    · rename_i e hu
      split
      · simp only [RA] at hx
        obtain ⟨rfl, rfl⟩ := hx
        refine yields_val (x := .int .i64 0) ?_ (RA_int _ _)
        simp [Builtin.cap_, e0, e1, und_run hu, goInt]
      · rename_i p n hn
        simp only [RA] at hx
        obtain ⟨b, base, bs, ad, cp, hp, rfl, hle, hcap⟩ := hx
        split
        · rename_i c' hc
          obtain ⟨_, k⟩ := cap_least hR hc hp hcap
          have := k rfl; subst this
          refine yields_val (x := .int .i64 c') ?_ (RA_int _ _)
          simp [Builtin.cap_, e0, e1, und_run hu, goInt]
        · trivial
      · trivial
    · trivial
  · trivial

theorem copy_ok (hR : R π σ w) {ts : Array TypeId} {ty : TypeId} {as : List AV} {vs : Array Value} (h : RT π as vs.toList) : Yields cx.P π σ w (Builtin.copy_ ts ty vs) (copyA cx ts.toList as σ) := by
  unfold copyA
  split
  · rename_i t ts' p len c x as' ht
    obtain ⟨S, r, hv, hs, hr⟩ := h.cons
    obtain ⟨X, r', rfl, hx, hr'⟩ := hr.cons'
    have e0 := tget0 ht
    have ev0 := get0 hv
    have ev1 := get1 hv
    split
    · rename_i e hu
      split
      · rename_i sz n hsz hn
        have hl := lenA_ok (cx := cx) (w := w) hn hx
        have hmin : (bif Nat.ble len n then len else n) = Nat.min n len := by
          rw [ble_eq]
          show _ = min n len
          by_cases hh : len ≤ n
          · rw [decide_eq_true hh]; simp; omega
          · rw [decide_eq_false hh]; simp; omega
        simp only [hmin]
        have hmn : Nat.min n len ≤ n := Nat.min_le_left _ _
        have hml : Nat.min n len ≤ len := Nat.min_le_right _ _
        split
        · trivial
        · rename_i cs hcs
          obtain ⟨news, hf, hnr, hnl⟩ := first_ok (cx := cx) hR hcs hx (fun p l c e => by subst e; cases hn; exact hmn)
          cases p with
          | none =>
            simp only [RA] at hs
            obtain ⟨rfl, rfl⟩ := hs
            refine yields_val (x := .int .i64 (Nat.min n 0)) ?_ (RA_int _ _)
            simp only [Builtin.copy_, e0, ev0, ev1, Sem.run_bind, und_run hu, Result.andThen_ok, hl, size_run hsz]
            have hf' : (Builtin.firstCells sz.succ (Nat.min n 0) X).run cx.P w = .ok news.toArray w := hf
            rw [hf']
            simp [goInt]
          | some p =>
            simp only [RA] at hs
            obtain ⟨b, base, bs, ad, cp, hp, rfl, hle, hcap⟩ := hs
            have hf' : (Builtin.firstCells sz.succ (Nat.min n len) X).run cx.P w = .ok news.toArray w := hf
            simp only [beq_eq]
            by_cases h0 : Nat.min n len = 0
            · rw [decide_eq_true h0]
              have hnn : news = [] := List.length_eq_zero_iff.1 (by rw [hnl, h0]; simp)
              subst hnn
              refine yields_val (x := .int .i64 0) ?_ (RA_int _ _)
              simp only [Builtin.copy_, e0, ev0, ev1, Sem.run_bind, und_run hu, Result.andThen_ok, hl, size_run hsz]
              rw [hf']
              simp [goInt, storeCells, h0]
            · rw [decide_eq_false h0]
              simp only [cond_false]
              have had := slice_at hcap hle (by omega)
              subst had
              rcases storeCells_cases p cs (.one (.int .i64 (.ofNat (Nat.min n len)))) σ with hst | ⟨σ', hst⟩
              · rw [hst]; trivial
              · obtain ⟨_, k1, k2, k3⟩ := storeCells_ok (cx := cx) hR (p := p) hnr hp hst
                rw [hst]
                refine ⟨.int .i64 (Nat.min n len), _, π, ?_, k2, RA_int _ _, k3⟩
                simp only [Builtin.copy_, e0, ev0, ev1, Sem.run_bind, und_run hu, Result.andThen_ok, hl, size_run hsz]
                rw [hf']
                simp only [Result.andThen_ok, Sem.run_bind, List.toList_toArray, k1, Sem.run_pure, goInt]
      · trivial
    · trivial
  · trivial

theorem sliceData_ok {ts : Array TypeId} {ty : TypeId} {as : List AV} {vs : Array Value} (h : RT π as vs.toList) : Yields cx.P π σ w (Builtin.unsafeSliceData_ ts ty vs) (sliceDataB as) := by
  unfold sliceDataB
  split
  · obtain ⟨S, r, hv, hs, hr⟩ := h.cons
    have hr' : r = [] := by cases r with
      | nil => rfl
      | cons _ _ => simp [RT] at hr
    subst hr'
    simp only [RA] at hs
    obtain ⟨rfl, rfl⟩ := hs
    have : vs = #[.slice none 0 0] := by apply Array.toList_inj.1; simpa using hv
    subst this
    exact yields_val (x := .pointer none) rfl (by simp [RA, RC])
  · rename_i p n c
    obtain ⟨S, r, hv, hs, hr⟩ := h.cons
    have hr' : r = [] := by cases r with
      | nil => rfl
      | cons _ _ => simp [RT] at hr
    subst hr'
    simp only [RA] at hs
    obtain ⟨b, base, bs, ad, cp, hp, rfl, hle, hcap⟩ := hs
    have : vs = #[.slice (some ⟨b, ad, none⟩) (n + 1) cp] := by apply Array.toList_inj.1; simpa using hv
    subst this
    have had := slice_at hcap hle (by omega)
    subst had
    have hcp : cp ≠ 0 := by omega
    refine yields_val (x := .pointer (some ⟨b, base + p.2, none⟩)) (by
      show (if cp ≠ 0 then pure (.pointer (some ⟨b, base + p.2, none⟩)) else _ : Sem Value).run cx.P w = _
      rw [if_pos hcp]; rfl) ?_
    simp only [RA]
    exact ⟨b, base, bs, hp, rfl⟩
  · trivial

end Go.Run

namespace Go.Run
variable {cx : Cx} {π : Pl} {σ : St} {w : World} {env : Env} {a : Act}

/-- a block is changed, and no more known -/
theorem R.drop (h : R π σ w) {i : Nat} {bi : Blk} (hi : σ.get i = some bi) (hr : bi.isRo = false) {x : Nat × Nat × Nat} (hx : π i = some x) {w' : World} (hs : w'.heap.size = w.heap.size) (ho : ∀ b, b ≠ x.1 → w'.heap[b]? = w.heap[b]?) (hsame : Same w w') :
    R π (σ.kill i) w' ∧ Go π σ w π (σ.kill i) w' := by
  have hk : ∀ {j b}, (σ.kill i).get j = some b → j ≠ i ∧ σ.get j = some b := fun {j b} hj => by
    rw [St.get_kill] at hj; split at hj
    · cases hj
    · rename_i e; exact ⟨e, hj⟩
  refine ⟨⟨fun j b hj => ?_, fun j k bj bk u v hj hk' => h.inj j k bj bk u v (hk hj).2 (hk hk').2, h.lt⟩,
    ⟨fun _ _ => rfl, Nat.le_refl _, by rw [hs]; exact Nat.le_refl _, fun b hb hn => ho b fun e => hn ⟨i, bi, x, hi, hr, hx, e.symm⟩, fun b _ ⟨j, bj, u, hj, hro, hu, e⟩ => ⟨j, bj, u, (hk hj).2, hro, hu, e⟩, fun b _ ⟨j, bj, u, hj, hu, e⟩ => ⟨j, bj, u, (hk hj).2, hu, e⟩, hsame⟩⟩
  obtain ⟨e, hj'⟩ := hk hj
  obtain ⟨u, hu, hb⟩ := h.blk j b hj'
  exact ⟨u, hu, hb.congr (ho _ (h.inj2 j i b bi u x hj' hi hr hu hx e))⟩

theorem liesAt_bytes_at {P : Program} {e : TypeId} (hc : P.cellsOf e = 1) (count off n : Nat) (hn : off + n ≤ count) : liesAt P P.depth e count off e n = true := by
  have hd : P.depth = (2 * (P.types.size + Made.depth) + 1) + 1 := rfl
  rw [hd]
  simp only [liesAt, Bool.or_eq_true]
  left
  rw [hd]
  have : off % 1 = 0 := Nat.mod_one _
  simp [rowAt, hc, hn, sameLayout, this]

theorem run_unsafeString_at {P : Program} {w : World} {ts : Array TypeId} {pt ty e : TypeId} {k : IntKind} (ht : ts[0]? = some pt) (hp : P.underlying pt = some (.pointer e)) (hc : P.cellsOf e = 1) (g off cells : Nat) (hsh : w.shape? g = some (e, cells)) (l : List UInt8) (h0 : l ≠ []) (hn : off + l.length ≤ cells) (h63 : l.length ≤ 9223372036854775807)
    (hcell : ∀ j x, l[j]? = some x → w.cell? ((⟨g, off, none⟩ : Addr).add j) = some (.int .u8 x.toNat)) :
    (Builtin.unsafeString_ ts ty #[.pointer (some ⟨g, off, none⟩), .int k l.length]).run P w = .ok (.string ⟨l.toArray⟩) (w.freeze ⟨g, off, none⟩ l.length) := by
  have hl : l.length ≠ 0 := by simpa using h0
  have hlb := Lib.run_loadBytes (P := P) w l ⟨g, off, none⟩ .empty hcell
  have hlies := liesAt_bytes_at (P := P) hc (cells / P.cellsOf e) off l.length (by rw [hc]; simpa using hn)
  have hmax : IntKind.i64.max = 9223372036854775807 := rfl
  have h63' : ¬ (9223372036854775807 : Int) < (l.length : Int) := by omega
  have hdef : Builtin.unsafeString_ ts ty #[.pointer (some ⟨g, off, none⟩), .int k l.length] =
      (do
        let n ← asInt (.int k l.length)
        let some pt := ts[0]? | stuck "unsafe.String: no argument types"
        if n < 0 then runtimePanic (.error "unsafe.String: len out of range")
        if n > IntKind.i64.max then unsupported (.unsafePointer "String: a length above the largest int")
        if n = 0 then pure (.string .empty)
        else if ← variablesAt ⟨g, off, none⟩ (← elemOf pt) n.toNat then do
          let s ← loadBytes ⟨g, off, none⟩ .empty n.toNat
          freeze ⟨g, off, none⟩ n.toNat
          pure (.string s)
        else unsupported (.unsafePointer "String: not so many bytes at ptr")) := rfl
  rw [hdef]
  have hneg : ¬ ((l.length : Int) < 0) := by omega
  have he : ByteArray.empty.data ++ l.toArray = l.toArray := by
    have : ByteArray.empty.data = #[] := rfl
    rw [this]; simp
  simp [asInt, asIntOf, ht, hmax, hneg, h63', hl, elemOf, run_underlying hp, variablesAt, hsh, hlies, hlb, he]

theorem run_unsafeString_zero {P : Program} {w : World} {ts : Array TypeId} {pt ty : TypeId} {k : IntKind} (ht : ts[0]? = some pt) (p : Option Addr) : (Builtin.unsafeString_ ts ty #[.pointer p, .int k 0]).run P w = .ok (.string .empty) w := by
  have hmax : IntKind.i64.max = 9223372036854775807 := rfl
  cases p with
  | none =>
    have hdef : Builtin.unsafeString_ ts ty #[.pointer none, .int k 0] =
        (do
          let n ← asInt (.int k 0)
          let some _ := ts[0]? | stuck "unsafe.String: no argument types"
          if n < 0 then runtimePanic (.error "unsafe.String: len out of range")
          if n > IntKind.i64.max then unsupported (.unsafePointer "String: a length above the largest int")
          if n = 0 then pure (.string .empty)
          else runtimePanic (.error "unsafe.String: ptr is nil and len is not zero")) := rfl
    rw [hdef]
    simp [asInt, asIntOf, hmax, ht]
  | some a =>
    have hdef : Builtin.unsafeString_ ts ty #[.pointer (some a), .int k 0] =
        (do
          let n ← asInt (.int k 0)
          let some pt := ts[0]? | stuck "unsafe.String: no argument types"
          if n < 0 then runtimePanic (.error "unsafe.String: len out of range")
          if n > IntKind.i64.max then unsupported (.unsafePointer "String: a length above the largest int")
          if n = 0 then pure (.string .empty)
          else if ← variablesAt a (← elemOf pt) n.toNat then do
            let s ← loadBytes a .empty n.toNat
            freeze a n.toNat
            pure (.string s)
          else unsupported (.unsafePointer "String: not so many bytes at ptr")) := rfl
    rw [hdef]
    simp [asInt, asIntOf, hmax, ht]
theorem same_freeze (w : World) (g o n : Nat) : Same w (w.freeze ⟨g, o, none⟩ n) := by
  unfold World.freeze
  split <;> exact ⟨rfl, rfl, rfl⟩
theorem heap_freeze (w : World) (g o n : Nat) : (w.freeze ⟨g, o, none⟩ n).heap.size = w.heap.size ∧ ∀ b, b ≠ g → (w.freeze ⟨g, o, none⟩ n).heap[b]? = w.heap[b]? := by
  unfold World.freeze
  split
  · exact ⟨rfl, fun _ _ => rfl⟩
  · exact ⟨by simp, fun b hb => by simp only [Array.getElem?_modify]; rw [if_neg (Ne.symm hb)]⟩

theorem string_ok (hR : R π σ w) {ts : Array TypeId} {ty : TypeId} {as : List AV} {vs : Array Value} (h : RT π as vs.toList) : Yields cx.P π σ w (Builtin.unsafeString_ ts ty vs) (stringB cx ts.toList as σ) := by
  unfold stringB
  split
  · rename_i t ts' p nv ht
    obtain ⟨S, r, hv, hs, hr⟩ := h.cons
    obtain ⟨N, r', rfl, hN, hr'⟩ := hr.cons'
    have hr2 : r' = [] := by cases r' with
      | nil => rfl
      | cons _ _ => simp [RT] at hr'
    subst hr2
    have e0 := tget0 ht
    split
    · rename_i hn
      obtain ⟨k, rfl⟩ := natOf_ok hn hN
      obtain ⟨pa, rfl⟩ : ∃ pa, S = .pointer pa := by
        cases p with
        | none => exact ⟨none, by simpa [RA, RC] using hs⟩
        | some p => simp only [RA] at hs; obtain ⟨_, _, _, _, rfl⟩ := hs; exact ⟨_, rfl⟩
      have hvs : vs = #[.pointer pa, .int k 0] := by apply Array.toList_inj.1; simpa using hv
      subst hvs
      exact yields_val (x := .string .empty) (run_unsafeString_zero e0 pa) (RA_str _)
    · rename_i n hne hn
      obtain ⟨k, rfl⟩ := natOf_ok hn hN
      split
      · trivial
      · rename_i i o
        split
        · rename_i u l e ex hu hi
          cases hc : (Nat.beq e u && Nat.ble n 4611686018427387904)
          · trivial
          · simp only [cond_true]
            simp only [Bool.and_eq_true, beq_eq, ble_eq, decide_eq_true_eq] at hc
            obtain ⟨rfl, hn63⟩ := hc
            split
            · rename_i cs hsz hcs
              split
              · rename_i b hb
                obtain ⟨⟨bl, base, sz⟩, hp, hblk⟩ := hR.blk i _ hi
                simp only [RA] at hs
                obtain ⟨b', base', sz', hp', rfl⟩ := hs
                simp only at hp'
                rw [hp] at hp'; cases hp'
                obtain ⟨ms, h1, h2, h3⟩ := hblk.read rfl hcs
                have hms := bytesAt_ok cs b ms hb h1
                have hbl : b.length = n := by rw [← h2, hms]; simp
                obtain ⟨cur, frz, g1, g2, g3, _⟩ := hblk
                simp only at g1 g2 g3
                have hlen : o + n ≤ l.length := by
                  obtain ⟨_, hle⟩ := takeN_eq _ _ _ hcs
                  rw [dropN_eq] at hle; simp at hle
                  have : n ≠ 0 := fun e => hne e
                  omega
                have hsh : w.shape? bl = some (e, cur.size) := by simp [World.shape?, g1]
                have hvs : vs = #[.pointer (some ⟨bl, base + o, none⟩), .int k n] := by apply Array.toList_inj.1; simpa using hv
                subst hvs
                subst hbl
                have hb0 : b ≠ [] := fun e => hne (by rw [e]; rfl)
                have hcl : cx.P.cellsOf e = 1 := by
                  obtain ⟨inf, hinf, hs1⟩ := size_info hsz
                  simp [Program.cellsOf, hinf, hs1]
                have hrun := run_unsafeString_at (P := cx.P) (w := w) (ts := ts) (pt := t) (ty := ty) (e := e) (k := k) e0 hu hcl bl (base + o) cur.size hsh b hb0 (by omega) (by omega) (fun j x hj => by
                  rw [Addr.add_mid]
                  refine h3 j _ ?_
                  rw [hms]; simp [hj])
                obtain ⟨f1, f2⟩ := heap_freeze w bl (base + o) b.length
                obtain ⟨r1, r2⟩ := hR.drop hi rfl hp f1 f2 (same_freeze w bl (base + o) b.length)
                exact ⟨_, _, π, hrun, r1, RA_str _, r2⟩
              · trivial
            · trivial
        · trivial
    · trivial
  · trivial
end Go.Run
