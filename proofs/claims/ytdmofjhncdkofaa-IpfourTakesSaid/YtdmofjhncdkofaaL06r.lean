/- The reference's Take of layer 6, told by the same plain function. -/
import Derived.Test.YtdmofjhncdkofaaL06
import Derived.Test.YtdmofjhncdkofaaL4Rsum
import Derived.Test.YtdmofjhncdkofaaQx11
namespace Go.Proofs.Ytdmofjhncdkofaa.L06
open Go Go.RowKit Go.Proofs.Ytdmofjhncdkofaa.Q Go.Proofs.Ytdmofjhncdkofaa.Base Go.Proofs.Ytdmofjhncdkofaa.L04 Go.Proofs.Ytdmofjhncdkofaa.LAt Go.Proofs.YtdmofjhncdkofaaW.PrintWords Go.Proofs.YtdmofjhncdkofaaW.PrintMore
set_option linter.unusedVariables false
set_option linter.unusedSimpArgs false
theorem reftake4_eq (s : ByteArray) (hs : s.size ≤ 140737488351232) (k : Nat) (hk : 200 ≤ k) : rillmeterref06_Take.f k s = some (take4 s) := by
  obtain ⟨k, rfl⟩ : ∃ m, k = m + 2 := ⟨k - 2, by omega⟩
  have hb := bt_range s 0
  have hq60 := hlen_le s
  unfold rillmeterref06_Take.f
  by_cases c1 : s.size < 20
  · rw [if_pos (by omega), take4_err (err4_1 c1) (by decide)]; rfl
  rw [if_neg (by omega), if_pos (by omega)]
  have e16 : wrap64 (Int.tdiv (wrap64 (bt s 0)) 16) = bt s 0 / 16 := by
    rw [w64 (n := bt s 0) (by omega) (by omega), Int.tdiv_eq_ediv_of_nonneg (by omega), w64 (by omega) (by omega)]
  rw [e16]
  by_cases c2 : bt s 0 / 16 = 4
  case neg => rw [if_neg c2, take4_err (err4_2 c1 c2) (by decide)]; rfl
  rw [if_pos c2]
  have eq : wrap64 (4 * Int.tmod (wrap64 (bt s 0)) 16) = ((hlen s : Nat) : Int) := by
    rw [w64 (n := bt s 0) (by omega) (by omega), Int.tmod_eq_emod_of_nonneg (by omega), w64 (by omega) (by omega)]
    unfold hlen; omega
  rw [eq]
  have bad0 : rillmeterref06_Take.j0 (k + 2) s (hlen s : Int) true = some (tup zero4 (mkB []) 11) := by
    rw [show k + 2 = (k + 1) + 1 from rfl]; simp only [rillmeterref06_Take.j0, if_true]; rfl
  by_cases c3 : hlen s < 20
  · rw [if_pos (by omega), bad0, take4_err (err4_3 c1 c2 (.inl c3)) (by decide)]
  rw [if_neg (by omega)]
  by_cases c4 : s.size < hlen s
  · rw [decide_eq_true (by omega), bad0, take4_err (err4_3 c1 c2 (.inr c4)) (by decide)]
  have c34 : ¬ (hlen s < 20 ∨ s.size < hlen s) := by omega
  rw [decide_eq_false (by omega), show k + 2 = (k + 1) + 1 from rfl]
  simp only [rillmeterref06_Take.j0, Bool.false_eq_true, if_false]
  rw [if_pos (by decide), if_pos (by omega), refnum_eq s 2 4 (by omega) _ (by omega), Option.bind_some]
  have bad1 : rillmeterref06_Take.j1 (k + 1) s (hlen s : Int) (at_ s 2 4 : Int) true = some (tup zero4 (mkB []) 13) := by simp only [rillmeterref06_Take.j1, if_true]; rfl
  by_cases c5 : at_ s 2 4 < hlen s
  · rw [if_pos (by omega), bad1, take4_err (err4_4 c1 c2 c34 (.inl c5)) (by decide)]
  rw [if_neg (by omega)]
  by_cases c6 : s.size < at_ s 2 4
  · rw [decide_eq_true (by omega), bad1, take4_err (err4_4 c1 c2 c34 (.inr c6)) (by decide)]
  have c56 : ¬ (at_ s 2 4 < hlen s ∨ s.size < at_ s 2 4) := by omega
  rw [decide_eq_false (by omega)]
  simp only [rillmeterref06_Take.j1, Bool.false_eq_true, if_false]
  have es : rillmeterref04_Sum.f k (s.extract 0 ((hlen s : Nat) : Int).toNat) = some ((isum (s.data.toList.take (hlen s)) : Nat) : Int) := by
    rw [refsum_eq _ (by rw [ByteArray.size_extract]; omega) _ (by rw [ByteArray.size_extract]; omega), extract_list]; simp
  rw [if_pos (by omega), if_pos (by omega), es, Option.bind_some]
  by_cases c7 : isum (s.data.toList.take (hlen s)) = 0
  case neg => rw [if_neg (by omega), take4_err (err4_5 c1 c2 c34 c56 c7) (by decide)]; rfl
  have b1 := bt_range s 1
  have b8 := bt_range s 8
  have b9 := bt_range s 9
  have a1 := at_one s 1 (by omega)
  have a8 := at_one s 8 (by omega)
  have a9 := at_one s 9 (by omega)
  simp only [show ((1 : Nat) : Int) = 1 from rfl, show ((8 : Nat) : Int) = 8 from rfl, show ((9 : Nat) : Int) = 9 from rfl, Nat.reduceAdd] at a1 a8 a9
  have h68 := at_lt s 6 8
  rw [if_pos (by omega), if_pos (by decide), if_pos (by omega), refnum_eq s 6 8 (by omega) _ (by omega), Option.bind_some, if_pos (by omega), if_pos (by decide), if_pos (by omega), refnum_eq s 4 6 (by omega) _ (by omega), Option.bind_some]
  rw [if_pos (by omega), if_pos (by omega), if_pos (by decide), if_pos (by omega), if_pos (by decide), if_pos (by omega), if_pos (by omega), if_pos (by omega), if_pos (by omega)]
  rw [w64 (n := bt s 1) (by omega) (by omega), w64 (n := bt s 8) (by omega) (by omega), w64 (n := bt s 9) (by omega) (by omega), Int.tdiv_eq_ediv_of_nonneg (by omega), Int.tmod_eq_emod_of_nonneg (by omega), w64 (by omega) (by omega)]
  unfold take4
  rw [if_pos (err4_0 c1 c2 c34 c56 c7)]
  unfold tup h4
  rw [a1, a8, a9]
  simp
end Go.Proofs.Ytdmofjhncdkofaa.L06
