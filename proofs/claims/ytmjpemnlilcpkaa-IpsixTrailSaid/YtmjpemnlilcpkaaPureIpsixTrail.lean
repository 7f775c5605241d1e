/- What stands behind a packet's length turns nothing; a packet that ends ahead of it is refused. Conditions: none beyond the statement's own. -/
import Derived.Test.YtmjpemnlilcpkaaBase
import Derived.Test.YtmjpemnlilcpkaaL7a
import Derived.Test.YtmjpemnlilcpkaaL7
import Derived.Test.YtmjpemnlilcpkaaQx26
namespace Go.Proofs.Ytmjpemnlilcpkaa.Pure
open Go Go.RowKit Go.Proofs.Ytmjpemnlilcpkaa.Q Go.Proofs.Ytmjpemnlilcpkaa.Base Go.Proofs.Ytmjpemnlilcpkaa.LAt Go.Proofs.Ytmjpemnlilcpkaa.L07 Go.Proofs.YtmjpemnlilcpkaaW.PrintWords Go.Proofs.YtmjpemnlilcpkaaW.PrintMore
set_option linter.unusedVariables false
set_option linter.unusedSimpArgs false
theorem take6_cut {s : ByteArray} (h : ok6 s) (c : Nat) (hc : c < 40 + at_ s 4 6) (T : Type) (f : Ex → T) :
    take6 f (s.extract 0 c) = (0, 0, 0, 0, mkB [], mkB [], [], mkB [], if c < 40 then 2 else 13) := by
  obtain ⟨h1, h2, h3⟩ := h
  have hz : (s.extract 0 c).size = c := by rw [ByteArray.size_extract]; omega
  by_cases c4 : c < 40
  · unfold take6; rw [if_pos (by omega), if_pos c4]; rfl
  have es : s.extract 0 c ++ s.extract c s.size = s := by
    apply ByteArray.ext
    apply Array.toList_inj.mp
    rw [app_list, extract_list, extract_list, List.drop_zero, Nat.sub_zero, List.take_of_length_le (i := s.size - c) (by rw [List.length_drop, len]; omega), List.take_append_drop]
  have a0 := at_app (s.extract 0 c) (s.extract c s.size) 0 4 (by omega)
  have a4 := at_app (s.extract 0 c) (s.extract c s.size) 4 6 (by omega)
  rw [es] at a0 a4
  unfold take6
  rw [hz, if_neg c4, ← a0, if_neg (show ¬ (at_ s 0 4 / 268435456 ≠ 6) by omega), ← a4, if_pos hc, if_neg c4]; rfl
theorem IpsixTrail : rillmeterlaw07_IpsixTrail.Pure := by
  intro s t cut hs ht hcut
  have hcw := wf64 hcut
  refine ⟨63, ?_⟩
  have skip : rillmeterlaw07_IpsixTrail.j0 63 s t cut true = some true := by
    rw [show (63 : Nat) = 62 + 1 from rfl]
    simp only [rillmeterlaw07_IpsixTrail.j0, if_true]
    rw [L07.awake_eq _ (by omega)]; rfl
  unfold rillmeterlaw07_IpsixTrail.f
  by_cases h : (s.size : Int) > 4096
  · rw [if_pos h, skip]
  rw [if_neg h]
  by_cases h1 : (t.size : Int) > 4096
  · rw [decide_eq_true h1, skip]
  rw [decide_eq_false h1, show (63 : Nat) = 62 + 1 from rfl]
  have hz : (s ++ t).size = s.size + t.size := ByteArray.size_append
  simp only [rillmeterlaw07_IpsixTrail.j0]
  rw [if_neg (by decide), take6_eq s hs _ (by omega), Option.bind_some, if_pos (by omega), take6_eq (s ++ t) (by omega) _ (by omega), Option.bind_some]
  rcases take6_cases s with ⟨e, hv, he⟩ | ⟨h, body, he, hr, hf, hp, hok⟩
  · rw [he Xe t1]
    dsimp only
    rw [if_neg (by omega), L07.awake_eq _ (by omega)]; rfl
  have hR := ((right_iff h).mp hr).2
  have hl := hR.2.2.2.2.2.2.2
  obtain ⟨hok', ha, ht'⟩ := ok6_app hok t
  have hbz : body.size ≤ 65535 := by unfold fits at hf; omega
  have hsm := small_of h hr
  have hlen := put6_length h hR body
  have hpl := congrArg List.length hp
  obtain ⟨k1, k2, k3⟩ := hok
  rw [List.length_take, len] at hpl
  rw [ht' Xe t1, he Xe t1]
  dsimp only
  rw [if_pos rfl, put6_eq h hsm body (by omega) _ (by omega), Option.bind_some, put6S_yes hr hf]
  dsimp only
  rw [ref_eq h.ch _ _ _ _ _ _ (by omega) _ (by omega), Option.bind_some, Option.bind_some]
  dsimp only
  rw [equal_eq h.ch _ _ _ _ _ _ (by omega) _ (by omega), Option.bind_some, if_pos rfl, if_pos rfl, if_pos rfl, show (62 : Nat) = 61 + 1 from rfl]
  simp only [rillmeterlaw07_IpsixTrail.j1]
  have skip2 : rillmeterlaw07_IpsixTrail.j2 61 s cut true = some true := by
    rw [show (61 : Nat) = 60 + 1 from rfl]
    simp only [rillmeterlaw07_IpsixTrail.j2, if_true]
    rw [L07.awake_eq _ (by omega)]; rfl
  rw [if_neg (by decide), mkB_size]
  by_cases d1 : cut < 0
  · rw [if_pos d1, skip2]
  rw [if_neg d1]
  by_cases d2 : cut ≥ ((put6 h body).length : Int)
  · rw [if_pos d2, skip2]
  rw [if_neg d2, decide_eq_false (by omega), show (61 : Nat) = 60 + 1 from rfl]
  simp only [rillmeterlaw07_IpsixTrail.j2]
  rw [if_neg (by decide), if_pos (by omega), if_pos (by omega), take6_eq _ (by rw [ByteArray.size_extract]; omega) _ (by omega), Option.bind_some, take6_cut ⟨k1, k2, k3⟩ cut.toNat (by omega) Xe t1]
  dsimp only
  by_cases d4 : cut.toNat < 40
  · rw [if_pos d4, decide_eq_true (show cut < 40 by omega), if_pos (by decide), if_pos rfl, L07.awake_eq _ (by omega)]; rfl
  · rw [if_neg d4, decide_eq_false (show ¬ cut < 40 by omega), if_pos (by decide), if_neg (by decide), if_pos rfl, L07.awake_eq _ (by omega)]; rfl
end Go.Proofs.Ytmjpemnlilcpkaa.Pure
