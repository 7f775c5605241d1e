/- More on layer 5: frames that are too short, and what the writer gives back. -/
import Derived.Test.YtngcelombflnfaaL05
import Derived.Test.YtngcelombflnfaaL4Put
import Derived.Test.YtngcelombflnfaaQx15
namespace Go.Proofs.Ytngcelombflnfaa.L05
open Go Go.RowKit Go.Proofs.Ytngcelombflnfaa.Q Go.Proofs.Ytngcelombflnfaa.Base Go.Proofs.Ytngcelombflnfaa.L04 Go.Proofs.Ytngcelombflnfaa.LAt Go.Proofs.YtngcelombflnfaaW.PrintWords Go.Proofs.YtngcelombflnfaaW.PrintMore
set_option linter.unusedVariables false
set_option linter.unusedSimpArgs false

theorem tk_err (s : ByteArray) (f : Nat) : ∀ (p : Nat) (tags : List Pr) (e : Int), tk s f p tags = .error e → e ≠ 0 := by
  induction f with
  | zero => intro p tags e h; cases h; decide
  | succ f ih =>
    intro p tags e h
    unfold tk at h
    split at h
    · split at h
      · split at h
        · cases h; decide
        · split at h
          · exact ih _ _ _ h
          · cases h; decide
      · cases h
    · cases h; decide
theorem tk0_err (s : ByteArray) (e : Int) (h : tk0 s = .error e) : e ≠ 0 := by
  unfold tk0 at h
  split at h
  · cases h; decide
  · exact tk_err _ _ _ _ _ h
theorem tk0_len (s : ByteArray) (ts : List Pr) (n : Int) (q : Nat) (h : tk0 s = .ok (ts, n, q)) : ts.length ≤ 2 := by
  unfold tk0 at h
  split at h
  · cases h
  · exact tk_len _ _ _ _ _ _ _ (by decide) h
theorem res_err {T : Type} (t : Pr → T) (s : ByteArray) (e : Int) (h : tk0 s = .error e) : res t s = (mkB [], mkB [], [], 0, mkB [], e) := by unfold res; rw [h]; rfl
theorem res_ok {T : Type} (t : Pr → T) (s : ByteArray) (ts : List Pr) (n : Int) (q : Nat) (h : tk0 s = .ok (ts, n, q)) : res t s = (s.extract 0 6, s.extract 6 12, ts.map t, n, s.extract q s.size, 0) := by unfold res; rw [h]; rfl

theorem at_pre (s : ByteArray) (c i j : Nat) (h : j ≤ c) : at_ (s.extract 0 c) i j = at_ s i j := by
  unfold at_
  rw [extract_list, List.drop_zero, List.drop_take, List.take_take]
  congr 2; omega
theorem tk_short (s : ByteArray) (c q : Nat) (hc : c ≤ s.size) (hq : c < q) (ts : List Pr) (n : Int) (f : Nat) : ∀ (p : Nat) (tags : List Pr), tk s f p tags = .ok (ts, n, q) → tk (s.extract 0 c) f p tags = .error 2 := by
  have hz : (s.extract 0 c).size = c := by rw [ByteArray.size_extract]; omega
  induction f with
  | zero => intro p tags h; cases h
  | succ f ih =>
    intro p tags h
    unfold tk at h ⊢
    rw [hz]
    by_cases h2 : p + 2 ≤ c
    · rw [if_pos (show p + 2 ≤ s.size by omega)] at h
      rw [if_pos h2, at_pre s c p (p + 2) h2]
      by_cases ht : isTag (at_ s p (p + 2) : Nat) = true
      · rw [if_pos ht] at h ⊢
        by_cases hl : tags.length = 2
        · rw [if_pos hl] at h; cases h
        · rw [if_neg hl] at h ⊢
          by_cases h4 : p + 4 ≤ c
          · rw [if_pos (show p + 4 ≤ s.size by omega)] at h
            rw [if_pos h4]
            have e : tg (s.extract 0 c) p = tg s p := by unfold tg; rw [at_pre s c p (p + 2) h2, at_pre s c (p + 2) (p + 4) h4]
            rw [e]
            exact ih _ _ h
          · rw [if_neg h4]
      · rw [if_neg ht] at h
        cases h; omega
    · rw [if_neg h2]
theorem tk0_short (s : ByteArray) (c q : Nat) (hc : c ≤ s.size) (hq : c < q) (ts : List Pr) (n : Int) (h : tk0 s = .ok (ts, n, q)) : tk0 (s.extract 0 c) = .error 2 := by
  have hz : (s.extract 0 c).size = c := by rw [ByteArray.size_extract]; omega
  unfold tk0 at h ⊢
  rw [hz]
  split at h
  · cases h
  · split
    · rfl
    · exact tk_short s c q hc hq ts n 3 12 [] h
def encT (l : List Pr) : List UInt8 := l.flatMap fun p => two p.1 ++ two p.2
theorem tk_back (s : ByteArray) (f : Nat) : ∀ (p : Nat) (tags ts : List Pr) (n : Int) (q : Nat), tk s f p tags = .ok (ts, n, q) → (∀ t ∈ tags, okT t) →
    encT ts ++ (two n ++ s.data.toList.drop q) = encT tags ++ s.data.toList.drop p ∧ (∀ t ∈ ts, okT t) ∧ ¬ isTag n = true ∧ is2 n = true ∧ q ≤ s.size := by
  have tw : ∀ p, p + 2 ≤ s.size → two ((at_ s p (p + 2) : Nat) : Int) = (s.data.toList.drop p).take 2 := by
    intro p hp
    unfold two; rw [Int.toNat_natCast, enc_at s p 2 hp]
  have i2 : ∀ p, is2 ((at_ s p (p + 2) : Nat) : Int) = true := by
    intro p
    have := at_lt s p (p + 2)
    rw [show p + 2 - p = 2 by omega, show 256 ^ 2 = 65536 from rfl] at this
    exact decide_eq_true ⟨by omega, by omega⟩
  induction f with
  | zero => intro p tags ts n q h; cases h
  | succ f ih =>
    intro p tags ts n q h ho
    unfold tk at h
    by_cases h2 : p + 2 ≤ s.size
    · rw [if_pos h2] at h
      by_cases ht : isTag (at_ s p (p + 2) : Nat) = true
      · rw [if_pos ht] at h
        by_cases hl : tags.length = 2
        · rw [if_pos hl] at h; cases h
        · rw [if_neg hl] at h
          by_cases h4 : p + 4 ≤ s.size
          · rw [if_pos h4] at h
            have hok : okT (tg s p) := ⟨ht, i2 (p + 2)⟩
            obtain ⟨e, r⟩ := ih _ _ _ _ _ h (by
              intro t ht'
              rcases List.mem_append.1 ht' with h1 | h1
              · exact ho t h1
              · rw [List.mem_singleton.1 h1]; exact hok)
            refine ⟨?_, r⟩
            rw [e]
            unfold encT
            rw [List.flatMap_append, List.append_assoc]
            congr 1
            rw [List.flatMap_cons, List.flatMap_nil, List.append_nil]
            show two ((at_ s p (p + 2) : Nat) : Int) ++ two ((at_ s (p + 2) (p + 2 + 2) : Nat) : Int) ++ _ = _
            rw [tw p h2, tw (p + 2) h4, List.append_assoc]
            have f2 : List.take 2 (List.drop (p + 2) s.data.toList) ++ List.drop (p + 4) s.data.toList = List.drop (p + 2) s.data.toList := by
              have := List.take_append_drop 2 (List.drop (p + 2) s.data.toList); rwa [List.drop_drop] at this
            have f1 : List.take 2 (List.drop p s.data.toList) ++ List.drop (p + 2) s.data.toList = List.drop p s.data.toList := by
              have := List.take_append_drop 2 (List.drop p s.data.toList); rwa [List.drop_drop] at this
            rw [f2, f1]
          · rw [if_neg h4] at h; cases h
      · rw [if_neg ht] at h
        cases h
        refine ⟨?_, ho, ht, i2 p, h2⟩
        rw [tw p h2]
        have f1 : List.take 2 (List.drop p s.data.toList) ++ List.drop (p + 2) s.data.toList = List.drop p s.data.toList := by
          have := List.take_append_drop 2 (List.drop p s.data.toList); rwa [List.drop_drop] at this
        rw [f1]
    · rw [if_neg h2] at h; cases h

/-! ### Put -/
theorem is2_r {n : Int} (h : is2 n = true) : 0 ≤ n ∧ n ≤ 65535 := of_decide_eq_true h
theorem tag_r {n : Int} (h : isTag n = true) : 0 ≤ n ∧ n ≤ 65535 := by
  unfold isTag at h
  rw [Bool.or_eq_true, beq_iff_eq, beq_iff_eq] at h
  omega
theorem ethput_loop (b d r : ByteArray) (l : List Pr) (n : Int) (hl : l.length ≤ 2) (hn : is2 n = true) (h : ∀ p ∈ l, okT p) (hb : b.size ≤ 140737488351232) (j : Nat) : ∀ (i k : Nat) (x : List UInt8), i + j = l.length → 30 + j ≤ k → x.length ≤ 1000 * i + 1000 →
    ether_Put.l0 k b (mkB x) (l.map t1) (l.length : Int) (i : Int) d r (l.map t1) n = some (mkB (x ++ (encT (l.drop i) ++ (two n ++ b.data.toList))), 0) := by
  have hn2 := is2_r hn
  induction j with
  | zero =>
    intro i k x hi hk hx
    obtain ⟨k, rfl⟩ : ∃ m, k = m + 1 := ⟨k - 1, by omega⟩
    simp only [ether_Put.l0]
    have e : mkB (x ++ two n) ++ b = mkB (x ++ two n ++ b.data.toList) := by rw [app_mkB]
    rw [if_neg (by omega), put_eq _ _ _ (by omega), Option.bind_some, putS_two hn2.1 hn2.2]
    dsimp only
    rw [if_pos (by simp only [mkB_size, two_length]; omega), mkB_app, if_pos (by simp only [mkB_size, List.length_append, two_length]; omega), e, List.drop_eq_nil_of_le (by omega)]
    simp [encT]
  | succ j ih =>
    intro i k x hi hk hx
    obtain ⟨k, rfl⟩ : ∃ m, k = m + 1 := ⟨k - 1, by omega⟩
    simp only [ether_Put.l0]
    have ho := h l[i] (List.getElem_mem _)
    have r1 := tag_r ho.1
    have r2 := is2_r ho.2
    rw [if_pos (by omega), if_pos (by omega), if_pos (by rw [List.length_map]; omega), rd1 l i (by omega)]
    simp only [t1]
    rw [put_eq _ _ _ (by omega), Option.bind_some, put_eq _ _ _ (by omega), Option.bind_some, putS_two r1.1 r1.2, putS_two r2.1 r2.2]
    dsimp only
    rw [if_pos (by simp only [mkB_size, two_length]; omega), mkB_app, if_pos (by simp only [mkB_size, List.length_append, two_length]; omega), mkB_app]
    rw [show wrap64 ((i : Int) + 1) = ((i + 1 : Nat) : Int) by rw [w64 (by omega) (by omega)]; omega]
    have := ih (i + 1) k (x ++ (two l[i].1 ++ two l[i].2)) (by omega) (by omega) (by simp only [List.length_append, two_length]; omega)
    refine this.trans ?_
    unfold encT
    rw [List.drop_eq_getElem_cons (show i < l.length by omega), List.flatMap_cons]
    simp only [List.append_assoc]
theorem ethput_ok (d r b : ByteArray) (l : List Pr) (n : Int) (hd : d.size = 6) (hr : r.size = 6) (hl : l.length ≤ 2) (hn : is2 n = true) (ht : ¬ isTag n = true) (h : ∀ p ∈ l, okT p) (hb : b.size ≤ 140737488351232) (k : Nat) (hk : 40 ≤ k) :
    ether_Put.f k d r (l.map t1) n b = some (mkB (d.data.toList ++ r.data.toList ++ (encT l ++ (two n ++ b.data.toList))), 0) := by
  unfold ether_Put.f
  rw [right_ok d r l n hd hr hl hn ht h k (by omega), Option.bind_some, if_pos rfl, if_pos (by omega), List.length_map]
  have e : d ++ r = mkB (d.data.toList ++ r.data.toList) := by rw [← mkB_eta (d ++ r), app_list]
  have hl1 := len d
  have hl2 := len r
  rw [e]
  have := ethput_loop b d r l n hl hn h hb l.length 0 k (d.data.toList ++ r.data.toList) (by omega) (by omega) (by rw [List.length_append]; omega)
  rw [List.drop_zero] at this
  exact this
end Go.Proofs.Ytngcelombflnfaa.L05
