/- Any datagram is written as the reference says, or refused, and taken back, whatever stands behind. Conditions: none beyond the statement's own. -/
import Derived.Test.YtocnbpbbmleahaaL08u
import Derived.Test.YtocnbpbbmleahaaQx10
namespace Go.Proofs.Ytocnbpbbmleahaa.Pure
open Go Go.RowKit Go.Proofs.Ytocnbpbbmleahaa.Q Go.Proofs.Ytocnbpbbmleahaa.Base Go.Proofs.Ytocnbpbbmleahaa.L04 Go.Proofs.Ytocnbpbbmleahaa.L08 Go.Proofs.YtocnbpbbmleahaaW.PrintWords Go.Proofs.YtocnbpbbmleahaaW.PrintMore
set_option linter.unusedVariables false
set_option linter.unusedSimpArgs false
theorem num_two (n : Int) (h : okPort n) : ((num (two n) : Nat) : Int) = n := by
  unfold two okPort at *
  rw [num_enc, Nat.mod_eq_of_lt (by simp only [show (256 : Nat) ^ 2 = 65536 from rfl]; omega)]; omega
theorem PortDatagrams : rillmeterlaw08_PortDatagrams.Pure := by
  intro a b s m _ _ hs hm
  refine ⟨61, ?_⟩
  have skip : rillmeterlaw08_PortDatagrams.j0 61 a b s m true = some true := by
    rw [show (61 : Nat) = 60 + 1 from rfl]
    simp only [rillmeterlaw08_PortDatagrams.j0, if_true]
    rw [L08.awake_eq _ (by omega)]; rfl
  unfold rillmeterlaw08_PortDatagrams.f
  by_cases h : (m.size : Int) > 4096
  · rw [if_pos h, skip]
  rw [if_neg h]
  by_cases h1 : (s.size : Int) > 4096
  · rw [decide_eq_true h1, skip]
  rw [decide_eq_false h1, show (61 : Nat) = 60 + 1 from rfl]
  simp only [rillmeterlaw08_PortDatagrams.j0, Bool.false_eq_true, if_false]
  rw [udp_eq a b s hs _ (by omega), Option.bind_some, refudp_eq a b s hs _ (by omega), Option.bind_some]
  by_cases hok : okPort a ∧ okPort b ∧ s.size ≤ 65527
  · obtain ⟨ha, hb, hz⟩ := hok
    have hu : udpS a b s = (mkB (two a ++ two b ++ two (8 + (s.size : Int)) ++ [0, 0] ++ s.data.toList), 0) := by unfold udpS; rw [if_pos ⟨ha, hb, hz⟩]
    rw [hu]
    simp only [decide_true, if_true]
    obtain ⟨a0, a1, ea⟩ : ∃ a0 a1, two a = [a0, a1] := ⟨_, _, rfl⟩
    obtain ⟨b0, b1, eb⟩ : ∃ b0 b1, two b = [b0, b1] := ⟨_, _, rfl⟩
    obtain ⟨c0, c1, ec⟩ : ∃ c0 c1, two (8 + (s.size : Int)) = [c0, c1] := ⟨_, _, rfl⟩
    have na := num_two a ha
    have nb := num_two b hb
    have nc := num_two (8 + (s.size : Int)) (by unfold okPort; omega)
    have hl := len s
    have hlm := len m
    have hall : mkB (two a ++ two b ++ two (8 + (s.size : Int)) ++ [0, 0] ++ s.data.toList) ++ m = mkB ([a0, a1, b0, b1, c0, c1, 0, 0] ++ (s.data.toList ++ m.data.toList)) := by
      conv => lhs; rw [← mkB_eta m]
      rw [mkB_app, ea, eb, ec]; simp
    have hp : portS 17 (mkB ([a0, a1, b0, b1, c0, c1, 0, 0] ++ (s.data.toList ++ m.data.toList))) = (a, b, s, 0) := by
      have h46 : at_ (mkB ([a0, a1, b0, b1, c0, c1, 0, 0] ++ (s.data.toList ++ m.data.toList))) 4 6 = 8 + s.size := by
        have : at_ (mkB ([a0, a1, b0, b1, c0, c1, 0, 0] ++ (s.data.toList ++ m.data.toList))) 4 6 = num (two (8 + (s.size : Int))) := by rw [ec]; rfl
        omega
      have h02 : ((at_ (mkB ([a0, a1, b0, b1, c0, c1, 0, 0] ++ (s.data.toList ++ m.data.toList))) 0 2 : Nat) : Int) = a := by rw [← na, ea]; rfl
      have h24 : ((at_ (mkB ([a0, a1, b0, b1, c0, c1, 0, 0] ++ (s.data.toList ++ m.data.toList))) 2 4 : Nat) : Int) = b := by rw [← nb, eb]; rfl
      have hsz : (mkB ([a0, a1, b0, b1, c0, c1, 0, 0] ++ (s.data.toList ++ m.data.toList))).size = 8 + (s.size + m.size) := by
        rw [mkB_size, List.length_append, List.length_append, hl, hlm]; rfl
      unfold portS
      rw [if_neg (by decide), if_pos rfl, h46, hsz, if_neg (by omega), if_neg (by omega), h02, h24]
      have hx : (mkB ([a0, a1, b0, b1, c0, c1, 0, 0] ++ (s.data.toList ++ m.data.toList))).extract 8 (8 + s.size) = s := by
        rw [mkB_extract, List.drop_left' (by rfl), show 8 + s.size - 8 = s.size by omega, List.take_left' hl, mkB_eta]
      rw [hx]
    rw [if_pos (by rw [mkB_size]; simp only [List.length_append, two_length, hl]; simp; omega), hall, port_eq 17 _ (by rw [mkB_size]; simp only [List.length_append, hl, hlm]; simp; omega) _ (by omega), Option.bind_some, hp]
    simp only [if_true]
    rw [L08.awake_eq _ (by omega)]; rfl
  · have hu : udpS a b s = (mkB [], 1) := by unfold udpS; rw [if_neg hok]
    rw [hu]
    have hd : ¬ (decide ((1 : Int) = 0) = true) := by decide
    rw [if_neg hd, mkB_toList, if_pos rfl, if_pos rfl, L08.awake_eq _ (by omega)]; rfl
end Go.Proofs.Ytocnbpbbmleahaa.Pure
