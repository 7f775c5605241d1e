/- The reference's UDP of layer 8, told by a plain function on bytes. -/
import Derived.Test.YtocnbpbbmleahaaL08
import Derived.Test.YtocnbpbbmleahaaQx8
import Derived.Test.YtocnbpbbmleahaaQx9
namespace Go.Proofs.Ytocnbpbbmleahaa.L08
open Go Go.RowKit Go.Proofs.Ytocnbpbbmleahaa.Q Go.Proofs.Ytocnbpbbmleahaa.Base Go.Proofs.Ytocnbpbbmleahaa.L04 Go.Proofs.YtocnbpbbmleahaaW.PrintWords Go.Proofs.YtocnbpbbmleahaaW.PrintMore
set_option linter.unusedVariables false
set_option linter.unusedSimpArgs false
theorem reftwo_eq (n : Int) (h : okPort n) : rillmeterref08_two.f n = some (mkB (two n)) := by
  unfold rillmeterref08_two.f two okPort at *
  obtain ⟨m, rfl⟩ := Int.eq_ofNat_of_zero_le h.1
  have hw : wrap64 (Int.tdiv (m : Int) 256) = ((m / 256 : Nat) : Int) := by
    rw [Int.tdiv_eq_ediv_of_nonneg (by omega), w64 (by omega) (by omega)]; omega
  have ht : Int.tmod (m : Int) 256 = ((m % 256 : Nat) : Int) := by rw [Int.tmod_eq_emod_of_nonneg (by omega)]; omega
  have e1 : ((m / 256 : Nat) : Int) % 256 = ((m / 256 % 256 : Nat) : Int) := by omega
  have e2 : ((m % 256 : Nat) : Int) % 256 = ((m % 256 % 256 : Nat) : Int) := by omega
  rw [hw, ht, e1, e2]
  have := nums_nat [m / 256 % 256, m % 256 % 256]
  simp only [List.map_cons, List.map_nil] at this
  rw [this]
  congr 2
  simp only [Int.toNat_natCast, enc, List.nil_append, List.singleton_append]
  have k1 : UInt8.ofNat (m / 256 % 256) = UInt8.ofNat (m / 256) := by apply UInt8.toNat_inj.1; simp
  have k2 : UInt8.ofNat (m % 256 % 256) = UInt8.ofNat m := by apply UInt8.toNat_inj.1; simp
  rw [k1, k2]
theorem refport_ok (n : Int) : rillmeterref08_port.f n = some (decide (okPort n)) := by
  unfold rillmeterref08_port.f
  by_cases h : n ≥ 0
  · rw [if_pos h]
    by_cases h1 : n < 65536
    · rw [decide_eq_true h1, decide_eq_true (show okPort n from ⟨h, by omega⟩)]
    · rw [decide_eq_false h1, decide_eq_false (show ¬ okPort n from fun h2 => h1 (by have := h2.2; omega))]
  · rw [if_neg h, decide_eq_false (show ¬ okPort n from fun h2 => h h2.1)]
theorem refudp_eq (a b : Int) (s : ByteArray) (hs : s.size ≤ 140737488351232) (k : Nat) (hk : 30 ≤ k) : rillmeterref08_UDP.f k a b s = some ((udpS a b s).1, decide ((udpS a b s).2 = 0)) := by
  obtain ⟨k, rfl⟩ : ∃ m, k = m + 1 := ⟨k - 1, by omega⟩
  have no : ¬ (okPort a ∧ okPort b ∧ s.size ≤ 65527) → rillmeterref08_UDP.j0 (k + 1) a b s true = some ((udpS a b s).1, decide ((udpS a b s).2 = 0)) := by
    intro h
    unfold udpS
    rw [if_neg h]
    simp only [rillmeterref08_UDP.j0, if_true]; rfl
  unfold rillmeterref08_UDP.f
  rw [refport_ok, Option.bind_some]
  by_cases ha : okPort a
  · rw [decide_eq_true ha, if_pos rfl, refport_ok, Option.bind_some]
    by_cases hb : okPort b
    · rw [decide_eq_true hb, if_pos rfl]
      by_cases hz : (s.size : Int) > 65527
      · rw [decide_eq_true hz]; exact no (fun h => by omega)
      · rw [decide_eq_false hz]
        unfold udpS
        rw [if_pos ⟨ha, hb, by omega⟩]
        have hw : wrap64 (8 + (s.size : Int)) = 8 + (s.size : Int) := w64 (by omega) (by omega)
        simp only [rillmeterref08_UDP.j0, Bool.false_eq_true, if_false]
        rw [reftwo_eq a ha, Option.bind_some, reftwo_eq b hb, Option.bind_some, hw, reftwo_eq (8 + (s.size : Int)) (by unfold okPort; omega), reftwo_eq 0 (by unfold okPort; omega)]
        simp only [Option.bind_some, mkB_app]
        have hl : (two a ++ two b).length = 4 := by rw [List.length_append, two_length, two_length]
        have e1 : mkB (two a ++ two b ++ two (8 + (s.size : Int)) ++ two 0) ++ s = mkB (two a ++ two b ++ two (8 + (s.size : Int)) ++ [0, 0] ++ s.data.toList) := by
          conv => lhs; rw [← mkB_eta s]
          rw [mkB_app]; simp [mkB_eta, mkB_size, len]; rfl
        rw [if_pos (by rw [mkB_size, mkB_size, two_length, two_length]; omega), if_pos (by rw [mkB_size, mkB_size, hl, two_length]; omega), if_pos (by rw [mkB_size, mkB_size, List.length_append, hl, two_length, two_length]; omega), if_pos (by rw [mkB_size, List.length_append, List.length_append, hl, two_length, two_length]; omega), e1]
        rfl
    · rw [decide_eq_false hb, if_neg (by decide)]; exact no (fun h => hb h.2.1)
  · rw [decide_eq_false ha, if_neg (by decide)]; exact no (fun h => ha h.1)
end Go.Proofs.Ytocnbpbbmleahaa.L08
