/- Any frame is written as the reference says, or refused, and taken back. Conditions: none beyond the statement's own. -/
import Derived.Test.YtngcelombflnfaaBase
import Derived.Test.YtngcelombflnfaaCEtherPuts
import Derived.Test.YtngcelombflnfaaQx18
namespace Go.Proofs.Ytngcelombflnfaa.Pure
open Go Go.RowKit Go.Proofs.Ytngcelombflnfaa.Q Go.Proofs.Ytngcelombflnfaa.Base Go.Proofs.Ytngcelombflnfaa.LAt Go.Proofs.Ytngcelombflnfaa.L05 Go.Proofs.YtngcelombflnfaaW.PrintWords Go.Proofs.YtngcelombflnfaaW.PrintMore
set_option linter.unusedVariables false
set_option linter.unusedSimpArgs false
theorem EtherPuts (d r : ByteArray) (ch : List Tg) (n : Int) (b : ByteArray) (hd : d.size ≤ 140737488351232) (hr : r.size ≤ 140737488351232) (_ : ch.length * 16 ≤ 140737488351232) (_ : ∀ x ∈ ch, True) (_ : (Lit.int .i64 n).wf = true) (hb : b.size ≤ 140737488351232) :
    ∃ k, rillmeterlaw05_EtherPuts.f k d r ch n b = some true := by
  obtain ⟨l, rfl⟩ : ∃ l : List Pr, ch = l.map t1 := ⟨ch.map fun p => (p.f0, p.f1), by rw [List.map_map]; exact (List.map_id' ch).symm⟩
  refine ⟨80, ?_⟩
  have skip : rillmeterlaw05_EtherPuts.j0 80 b true d r (l.map t1) n = some true := by
    rw [show (80 : Nat) = 79 + 1 from rfl]
    simp only [rillmeterlaw05_EtherPuts.j0, if_true]
    rw [L05.awake_eq _ (by omega)]; rfl
  unfold rillmeterlaw05_EtherPuts.f
  rw [skip, List.length_map]
  by_cases c1 : (l.length : Int) > 20
  · rw [if_pos c1]
  rw [if_neg c1]
  split
  · rfl
  by_cases c2 : (b.size : Int) > 4096
  · rw [decide_eq_true c2, skip]
  rw [decide_eq_false c2, show (80 : Nat) = 79 + 1 from rfl]
  simp only [rillmeterlaw05_EtherPuts.j0]
  have hl : l.length < 1000 := by omega
  have e2 := ref_eq l d r n hl 79 (by omega)
  have e3 := ethright_eq d r l n hl 79 (by omega)
  have e4 := refethright_eq d r l n hl 79 (by omega)
  rw [if_neg (by decide), e2]
  simp only [Option.bind_some]
  rw [e4, e3]
  simp only [Option.bind_some]
  cases hrt : rt d r l n
  · rw [ethput_no d r b l n hl hrt 79 (by omega), Option.bind_some, if_neg (by decide), if_neg (by decide)]
    dsimp only
    rw [mkB_toList, if_pos rfl, if_pos rfl, L05.awake_eq _ (by omega)]; rfl
  have hrt' := hrt
  unfold rt at hrt'
  rw [Bool.and_eq_true, decide_eq_true_eq, allT_iff] at hrt'
  obtain ⟨hT, o1, o2, o3, o4, o5⟩ := hrt'
  have e1 := ethput_ok d r b l n o1 o2 o3 o4 (by rw [o5]; decide) hT hb 79 (by omega)
  have e5 := refethput_eq d r l n o1 o2 o3 o4 hT 79 (by omega)
  have e6 := take_put d r b l n o1 o2 o3 o4 o5 hT
  have e7 := equal_eq l d r n hl 79 (by omega)
  rw [e1, Option.bind_some, if_neg (by decide), if_pos rfl]
  dsimp only
  rw [ethtake_eq _ _ (by omega), Option.bind_some, e6, e5, Option.bind_some]
  have hz : (encT l).length ≤ 8 := by
    have : ∀ l : List Pr, (encT l).length = 4 * l.length := by
      intro l
      induction l with
      | nil => rfl
      | cons a l ih => unfold encT at ih ⊢; rw [List.flatMap_cons, List.length_append, ih, List.length_append, two_length, two_length, List.length_cons]; omega
    rw [this]; omega
  have hl1 := len d
  have hl2 := len r
  rw [if_pos (by rw [mkB_size]; simp only [List.length_append, two_length]; omega), app_mkB, if_pos (by simp only [List.append_assoc]), if_pos rfl]
  dsimp only
  rw [e2, Option.bind_some]
  dsimp only
  rw [e7, Option.bind_some, if_pos rfl, if_pos rfl, if_pos rfl, L05.awake_eq _ (by omega)]; rfl
end Go.Proofs.Ytngcelombflnfaa.Pure
