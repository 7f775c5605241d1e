/- What the printed functions answer, told by plain functions on bytes: the reference's sum. -/
import Derived.Test.YtdmofjhncdkofaaBase
import Derived.Test.YtdmofjhncdkofaaQx10
namespace Go.Proofs.Ytdmofjhncdkofaa.L04
open Go Go.RowKit Go.Proofs.Ytdmofjhncdkofaa.Q Go.Proofs.Ytdmofjhncdkofaa.Base Go.Proofs.YtdmofjhncdkofaaW.PrintWords Go.Proofs.YtdmofjhncdkofaaW.PrintMore
set_option linter.unusedVariables false
set_option linter.unusedSimpArgs false

/-! ### the reference's sum -/
theorem refsum_loop (s : ByteArray) (hs : s.size ≤ 65535) (d : Nat) : ∀ (k i acc : Nat), s.size ≤ i + d → i ≤ s.size + 1 → i % 2 = 0 → acc ≤ 65535 → d < k →
    rillmeterref04_Sum.l0 k s (acc : Int) (i : Int) = some ((65535 - fold (acc + wsum true (s.data.toList.drop i)) : Nat) : Int) := by
  induction d using Nat.strongRecOn with
  | ind d ih =>
    intro k i acc hi hi2 hp ha hk
    obtain ⟨k, rfl⟩ : ∃ m, k = m + 1 := ⟨k - 1, by omega⟩
    simp only [rillmeterref04_Sum.l0]
    by_cases hlt0 : i < s.size
    · have hlt : i < s.data.toList.length := by rw [len]; omega
      have hb : bt s (i : Int) = ((s.data.toList[i]).toNat : Int) := bt_get s i hlt
      have hbl : (s.data.toList[i]).toNat < 256 := UInt8.toNat_lt _
      have e2 : wrap64 ((i : Int) + 1) = ((i + 1 : Nat) : Int) := by rw [w64 (by omega) (by omega)]; omega
      have e5 : wrap64 ((i : Int) + 2) = ((i + 2 : Nat) : Int) := by rw [w64 (by omega) (by omega)]; omega
      rw [if_pos (by omega), if_pos (by omega), e2, e5, List.drop_eq_getElem_cons hlt, hb]
      have fin : ∀ m : Nat, m ≤ 65535 → ∀ r, (if ((acc + m : Nat) : Int) > 65535 then rillmeterref04_Sum.l0 k s (wrap64 (((acc + m : Nat) : Int) - 65535)) ((i + 2 : Nat) : Int) else rillmeterref04_Sum.l0 k s ((acc + m : Nat) : Int) ((i + 2 : Nat) : Int)) = some r →
          r = ((65535 - fold (acc + m + wsum true (s.data.toList.drop (i + 2))) : Nat) : Int) → True := fun _ _ _ _ _ => trivial
      have fin : ∀ m : Nat, m ≤ 65535 → (if ((acc + m : Nat) : Int) > 65535 then rillmeterref04_Sum.l0 k s (wrap64 (((acc + m : Nat) : Int) - 65535)) ((i + 2 : Nat) : Int) else rillmeterref04_Sum.l0 k s ((acc + m : Nat) : Int) ((i + 2 : Nat) : Int)) = some ((65535 - fold (acc + m + wsum true (s.data.toList.drop (i + 2))) : Nat) : Int) := by
        intro m hm
        by_cases ho : acc + m > 65535
        · rw [if_pos (by omega), w64 (by omega) (by omega)]
          rw [show ((acc + m : Nat) : Int) - 65535 = ((acc + m - 65535 : Nat) : Int) by omega]
          rw [ih (d - 2) (by omega) k (i + 2) _ (by omega) (by omega) (by omega) (by omega) (by omega)]
          rw [← fold_add (acc + m), fold_over (a := acc + m) (by omega) (by omega)]
        · rw [if_neg (by omega)]
          exact ih (d - 2) (by omega) k (i + 2) _ (by omega) (by omega) (by omega) (by omega) (by omega)
      by_cases hn : i + 1 < s.size
      · have hlt1 : i + 1 < s.data.toList.length := by rw [len]; omega
        have hb1 : bt s ((i + 1 : Nat) : Int) = ((s.data.toList[i + 1]).toNat : Int) := bt_get s (i + 1) hlt1
        have hbl1 : (s.data.toList[i + 1]).toNat < 256 := UInt8.toNat_lt _
        rw [if_pos (by omega), if_pos (by omega), hb1, List.drop_eq_getElem_cons hlt1]
        have e6 : wrap64 ((acc : Int) + wrap64 (wrap64 (256 * wrap64 (((s.data.toList[i]).toNat : Nat) : Int)) + wrap64 (((s.data.toList[i + 1]).toNat : Nat) : Int))) = ((acc + (256 * (s.data.toList[i]).toNat + (s.data.toList[i + 1]).toNat) : Nat) : Int) := by
          rw [w64 (n := (((s.data.toList[i]).toNat : Nat) : Int)) (by omega) (by omega), w64 (n := (((s.data.toList[i + 1]).toNat : Nat) : Int)) (by omega) (by omega), w64 (n := 256 * (((s.data.toList[i]).toNat : Nat) : Int)) (by omega) (by omega)]
          rw [w64 (n := 256 * (((s.data.toList[i]).toNat : Nat) : Int) + _) (by omega) (by omega), w64 (by omega) (by omega)]
          omega
        rw [e6, fin _ (by omega)]
        simp only [wsum]
        rw [Nat.add_assoc, Nat.add_assoc]
      · rw [if_neg (by omega)]
        have e6 : wrap64 ((acc : Int) + wrap64 (256 * wrap64 (((s.data.toList[i]).toNat : Nat) : Int))) = ((acc + 256 * (s.data.toList[i]).toNat : Nat) : Int) := by
          rw [w64 (n := (((s.data.toList[i]).toNat : Nat) : Int)) (by omega) (by omega), w64 (n := 256 * (((s.data.toList[i]).toNat : Nat) : Int)) (by omega) (by omega), w64 (by omega) (by omega)]
          omega
        rw [e6, fin _ (by omega)]
        rw [List.drop_eq_nil_of_le (show s.data.toList.length ≤ i + 1 by rw [len]; omega), List.drop_eq_nil_of_le (show s.data.toList.length ≤ i + 2 by rw [len]; omega)]
        simp only [wsum]
        congr 3
    · rw [if_neg (by omega), w64 (by omega) (by omega), List.drop_eq_nil_of_le (by rw [len]; omega)]
      simp only [wsum, Nat.add_zero]
      rw [fold_small ha]
      congr 1; omega
theorem refsum_eq (s : ByteArray) (hs : s.size ≤ 65535) (k : Nat) (hk : s.size + 5 ≤ k) : rillmeterref04_Sum.f k s = some ((isum s.data.toList : Int)) := by
  unfold rillmeterref04_Sum.f
  have := refsum_loop s hs s.size k 0 0 (by omega) (by omega) (by omega) (by omega) (by omega)
  rw [show ((0 : Nat) : Int) = 0 from rfl] at this
  rw [this]
  simp [isum]

end Go.Proofs.Ytdmofjhncdkofaa.L04
