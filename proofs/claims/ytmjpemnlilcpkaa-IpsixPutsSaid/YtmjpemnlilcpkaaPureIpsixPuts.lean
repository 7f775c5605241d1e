/- Any header with any body is written as the reference says, or refused, and taken back. Conditions: none beyond the statement's own. -/
import Derived.Test.YtmjpemnlilcpkaaBase
import Derived.Test.YtmjpemnlilcpkaaL7a
import Derived.Test.YtmjpemnlilcpkaaL7p
import Derived.Test.YtmjpemnlilcpkaaQx23
namespace Go.Proofs.Ytmjpemnlilcpkaa.Pure
open Go Go.RowKit Go.Proofs.Ytmjpemnlilcpkaa.Q Go.Proofs.Ytmjpemnlilcpkaa.Base Go.Proofs.Ytmjpemnlilcpkaa.LAt Go.Proofs.Ytmjpemnlilcpkaa.L07 Go.Proofs.YtmjpemnlilcpkaaW.PrintWords Go.Proofs.YtmjpemnlilcpkaaW.PrintMore
set_option linter.unusedVariables false
set_option linter.unusedSimpArgs false
theorem small_loop (l : List Ex) (c la ho pr : Int) (src dst : ByteArray) (hl : l.length < 5864062014805) (r : List Ex) : ∀ (k i : Nat), l.drop i = r → i ≤ l.length → r.length < k →
    ∃ b, rillmeterref07_Small.l0 k (i : Int) c la ho pr src dst (l.map t2) = some b := by
  induction r with
  | nil =>
    intro k i hd hi hk
    obtain ⟨k, rfl⟩ : ∃ m, k = m + 1 := ⟨k - 1, by omega⟩
    have := congrArg List.length hd
    rw [List.length_drop, List.length_nil] at this
    refine ⟨true, ?_⟩
    simp only [rillmeterref07_Small.l0]
    rw [if_neg (by rw [List.length_map]; omega)]
  | cons p r ih =>
    intro k i hd hi hk
    rw [List.length_cons] at hk
    obtain ⟨k, rfl⟩ : ∃ m, k = m + 1 := ⟨k - 1, by omega⟩
    obtain ⟨h1, h2, h3⟩ := drop_len hd
    obtain ⟨b, hrec⟩ := ih k (i + 1) h3 (by omega) (by omega)
    have e1 : wrap64 ((i : Int) + 1) = ((i + 1 : Nat) : Int) := by rw [w64 (by omega) (by omega)]; omega
    simp only [rillmeterref07_Small.l0]
    rw [if_pos (by rw [List.length_map]; omega), if_pos (by omega), e1, hrec]
    split
    · exact ⟨_, rfl⟩
    · exact ⟨_, rfl⟩
theorem small_any (l : List Ex) (c la ho pr : Int) (src dst : ByteArray) (hl : l.length < 5864062014805) (k : Nat) (hk : l.length + 1 < k) :
    ∃ b, rillmeterref07_Small.f k c la ho pr src dst (l.map t2) = some b := by
  obtain ⟨k, rfl⟩ : ∃ m, k = m + 1 := ⟨k - 1, by omega⟩
  have hj : ∀ x : Bool, ∃ b, rillmeterref07_Small.j0 (k + 1) x c la ho pr src dst (l.map t2) = some b := by
    intro x
    simp only [rillmeterref07_Small.j0]
    cases x
    · rw [if_neg (by decide)]
      exact small_loop l c la ho pr src dst hl l k 0 rfl (by omega) (by omega)
    · exact ⟨_, if_pos rfl⟩
  unfold rillmeterref07_Small.f
  split
  · exact hj _
  · split <;> exact hj _
theorem IpsixPuts0 (cl la ho pr : Int) (src dst : ByteArray) (ch : List Xe) (body more : ByteArray) (hl : ch.length < 5864062014805) (hs : ∀ p ∈ ch, p.f1.size ≤ 140737488351232) (hb : body.size ≤ 140737488351232) (hm : more.size ≤ 140737488351232) :
    ∃ k, rillmeterlaw07_IpsixPuts.f k cl la ho pr src dst ch body more = some true := by
  obtain ⟨l, rfl⟩ : ∃ l : List Ex, ch = l.map t1 := ⟨ch.map fun p => (p.f0, p.f1), by rw [List.map_map]; exact (List.map_id' ch).symm⟩
  rw [List.length_map] at hl
  have hsm : small l := ⟨hl, fun p hp => hs (t1 p) (List.mem_map_of_mem hp)⟩
  obtain ⟨h, hh⟩ : ∃ h : H6, h = ⟨cl, la, ho, pr, src, dst, l⟩ := ⟨_, rfl⟩
  obtain ⟨k, hk⟩ : ∃ k, k = l.length + 60 := ⟨_, rfl⟩
  refine ⟨k + 3, ?_⟩
  have skip : ∀ (c' la' ho' pr' : Int) (s' d' : ByteArray) (l' : List Rx), rillmeterlaw07_IpsixPuts.j0 (k + 3) body more true cl la ho pr src dst (l.map t1) c' la' ho' pr' s' d' l' = some true := by
    intro c' la' ho' pr' s' d' l'
    rw [show k + 3 = (k + 2) + 1 from rfl]
    simp only [rillmeterlaw07_IpsixPuts.j0, if_true]
    rw [L07.awake_eq _ (by omega)]; rfl
  unfold rillmeterlaw07_IpsixPuts.f
  rw [ref_eq l _ _ _ _ _ _ (by omega) _ (by omega), Option.bind_some]
  dsimp only
  obtain ⟨b, hb'⟩ := small_any l cl la ho pr src dst hl (k + 3) (by omega)
  rw [hb', Option.bind_some, skip]
  cases b
  · rw [if_neg (by decide)]
  rw [if_pos rfl]
  by_cases c1 : (body.size : Int) > 4096
  · rw [if_pos c1]
  rw [if_neg c1]
  by_cases c2 : (more.size : Int) > 4096
  · rw [decide_eq_true c2, skip]
  rw [decide_eq_false c2, show k + 3 = (k + 2) + 1 from rfl]
  simp only [rillmeterlaw07_IpsixPuts.j0]
  have e1 := put6_eq ⟨cl, la, ho, pr, src, dst, l⟩ hsm body hb (k + 2) (by show l.length + 14 < _; omega)
  have e2 := refright_eq ⟨cl, la, ho, pr, src, dst, l⟩ hsm (k + 2) (by show l.length < _; omega)
  have e3 := right_eq ⟨cl, la, ho, pr, src, dst, l⟩ hsm (k + 2) (by show l.length < _; omega)
  have e4 := piece_eq l cl la ho pr src dst hl (k + 2) (by omega)
  have e5 := refpiece_eq l cl la ho pr src dst hl (k + 2) (by omega)
  dsimp only at e1 e2 e3
  rw [← hh] at e1 e2 e3
  rw [if_neg (by decide), e1, Option.bind_some, e2, Option.bind_some, e3, Option.bind_some, if_neg (by simp), e4, Option.bind_some, e5, Option.bind_some, show (pieceB l != pieceB l) = false by simp, show k + 2 = (k + 1) + 1 from rfl]
  simp only [rillmeterlaw07_IpsixPuts.j1]
  rw [if_neg (by decide)]
  cases hr : right h
  · rw [if_neg (by decide), put6S_no (fun q => by rw [hr] at q; cases q.1)]
    dsimp only
    rw [mkB_toList, if_pos rfl, if_pos rfl, L07.awake_eq _ (by omega)]; rfl
  obtain ⟨hC, hR⟩ := (right_iff h).mp hr
  have hEl := encC_len h.pr h.ch hC
  have hl8 := hR.2.2.2.2.2.2.2
  have hf : fits h body := by unfold fits; omega
  have hpl := put6_length h hR body
  have e6 := refput6_eq h body hb hr hf (k + 1) (by omega)
  have e7 := take_put t1 h body more hr hf
  have e8 := take6_eq (mkB (put6 h body) ++ more) (by rw [ByteArray.size_append, mkB_size]; omega) (k + 1) (by omega)
  rw [hh] at e6 e7
  dsimp only at e6 e7
  rw [← hh] at e6 e7
  rw [if_pos rfl, e6, Option.bind_some, put6S_yes hr hf]
  dsimp only
  rw [if_pos (by rw [mkB_size]; omega), e8, Option.bind_some, e7]
  dsimp only
  rw [if_pos rfl, if_pos rfl, ref_eq l _ _ _ _ _ _ (by omega) _ (by omega), Option.bind_some]
  dsimp only
  rw [equal_eq l _ _ _ _ _ _ (by omega) _ (by omega), Option.bind_some, if_pos rfl, if_pos rfl, if_pos rfl, L07.awake_eq _ (by omega)]; rfl
theorem IpsixPuts (cl la ho pr : Int) (src dst : ByteArray) (ch : List Xe) (body more : ByteArray) (_ : (Lit.int .i64 cl).wf = true) (_ : (Lit.int .i64 la).wf = true) (_ : (Lit.int .i64 ho).wf = true) (_ : (Lit.int .i64 pr).wf = true)
    (_ : src.size ≤ 140737488351232) (_ : dst.size ≤ 140737488351232) (hl : ch.length * 24 ≤ 140737488351232) (hs : ∀ p ∈ ch, p.f1.size ≤ 140737488351232) (hb : body.size ≤ 140737488351232) (hm : more.size ≤ 140737488351232) :
    ∃ k, rillmeterlaw07_IpsixPuts.f k cl la ho pr src dst ch body more = some true := IpsixPuts0 cl la ho pr src dst ch body more (by omega) hs hb hm
end Go.Proofs.Ytmjpemnlilcpkaa.Pure
