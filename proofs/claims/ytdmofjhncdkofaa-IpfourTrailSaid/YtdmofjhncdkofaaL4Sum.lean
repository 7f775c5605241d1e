/- What the printed functions answer, told by plain functions on bytes: octet.Sum. -/
import Derived.Test.YtdmofjhncdkofaaBase
import Derived.Test.YtdmofjhncdkofaaQx5
namespace Go.Proofs.Ytdmofjhncdkofaa.L04
open Go Go.RowKit Go.Proofs.Ytdmofjhncdkofaa.Q Go.Proofs.Ytdmofjhncdkofaa.Base Go.Proofs.YtdmofjhncdkofaaW.PrintWords Go.Proofs.YtdmofjhncdkofaaW.PrintMore
set_option linter.unusedVariables false
set_option linter.unusedSimpArgs false

/-! ### the sum -/
theorem sum_tail (n : Nat) (hn : n < 4294901760) (k : Nat) (hk : 4 ≤ k) : octet_Sum.l1 k (n : Int) = some ((65535 - fold n : Nat) : Int) := by
  have last : ∀ (k m : Nat), m ≤ 65535 → 1 ≤ k → octet_Sum.l1 k (m : Int) = some ((65535 - fold m : Nat) : Int) := by
    intro k m hm hk
    obtain ⟨k, rfl⟩ : ∃ m, k = m + 1 := ⟨k - 1, by omega⟩
    simp only [octet_Sum.l1]
    rw [if_neg (by omega), i64_xor _ (by omega) (by omega), fold_small hm]
    congr 1; omega
  have step : ∀ (k m : Nat), 65535 < m → m < 9223372036854775807 → octet_Sum.l1 (k + 1) (m : Int) = octet_Sum.l1 k ((m % 65536 + m / 65536 : Nat) : Int) := by
    intro k m hm h
    simp only [octet_Sum.l1]
    rw [if_pos (by omega), and_low _ (by omega) (by omega), w64 (by omega) (by omega)]
    congr 1
  by_cases h1 : n ≤ 65535
  · exact last k n h1 (by omega)
  obtain ⟨k, rfl⟩ : ∃ m, k = m + 1 := ⟨k - 1, by omega⟩
  rw [step k n (by omega) (by omega), ← fold_step n (by omega)]
  by_cases h2 : n % 65536 + n / 65536 ≤ 65535
  · exact last k _ h2 (by omega)
  obtain ⟨k, rfl⟩ : ∃ m, k = m + 1 := ⟨k - 1, by omega⟩
  rw [step k _ (by omega) (by omega), ← fold_step (n % 65536 + n / 65536) (by omega)]
  exact last k _ (by omega) (by omega)
theorem sum_loop (s : ByteArray) (hs : s.size ≤ 65535) (d : Nat) : ∀ (k i acc : Nat), i + d = s.size → acc ≤ 65280 * i → d + 5 ≤ k →
    octet_Sum.l0 k s (acc : Int) (s.size : Int) (i : Int) = some ((65535 - fold (acc + wsum (decide (i % 2 = 0)) (s.data.toList.drop i)) : Nat) : Int) := by
  induction d with
  | zero =>
    intro k i acc hi ha hk
    obtain ⟨k, rfl⟩ : ∃ m, k = m + 1 := ⟨k - 1, by omega⟩
    simp only [octet_Sum.l0]
    rw [if_neg (by omega), sum_tail acc (by omega) k (by omega), List.drop_eq_nil_of_le (by rw [len]; omega)]
    cases decide (i % 2 = 0) <;> simp [wsum]
  | succ d ih =>
    intro k i acc hi ha hk
    obtain ⟨k, rfl⟩ : ∃ m, k = m + 1 := ⟨k - 1, by omega⟩
    have hlt : i < s.data.toList.length := by rw [len]; omega
    have hb : bt s (i : Int) = ((s.data.toList[i]).toNat : Int) := bt_get s i hlt
    have hbl : (s.data.toList[i]).toNat < 256 := UInt8.toNat_lt _
    simp only [octet_Sum.l0]
    rw [if_pos (by omega), if_pos (by omega), if_pos (by omega), and_one _ (by omega) (by omega)]
    have e2 : wrap64 ((i : Int) + 1) = ((i + 1 : Nat) : Int) := by rw [w64 (by omega) (by omega)]; omega
    rw [List.drop_eq_getElem_cons hlt, hb, e2]
    by_cases hp : i % 2 = 0
    · have e3 : wrap64 (8 * wrap64 (1 - (i : Int) % 2)) = 8 := by rw [show (i : Int) % 2 = 0 by omega]; unfold wrap64; omega
      have e4 : shl .i64 (wrap64 (((s.data.toList[i]).toNat : Nat) : Int)) 8 = ((256 * (s.data.toList[i]).toNat : Nat) : Int) := by
        rw [shl_8 _ (by omega) (by omega)]; omega
      rw [e3, if_pos (by decide), e4]
      clear e3 e4
      rw [w64 (by omega) (by omega)]
      have := ih k (i + 1) (acc + 256 * (s.data.toList[i]).toNat) (by omega) (by omega) (by omega)
      rw [show ((acc : Int) + ((256 * (s.data.toList[i]).toNat : Nat) : Int)) = ((acc + 256 * (s.data.toList[i]).toNat : Nat) : Int) by omega, this]
      rw [show decide (i % 2 = 0) = true by simpa using hp, show decide ((i + 1) % 2 = 0) = false by simp; omega]
      simp only [wsum]
      rw [← Nat.add_assoc]
    · have e3 : wrap64 (8 * wrap64 (1 - (i : Int) % 2)) = 0 := by rw [show (i : Int) % 2 = 1 by omega]; unfold wrap64; omega
      have e4 : shl .i64 (wrap64 (((s.data.toList[i]).toNat : Nat) : Int)) 0 = (((s.data.toList[i]).toNat : Nat) : Int) :=
        shl_0 _ (by omega) (by omega)
      rw [e3, if_pos (by decide), e4]
      clear e3 e4
      rw [w64 (by omega) (by omega)]
      have := ih k (i + 1) (acc + (s.data.toList[i]).toNat) (by omega) (by omega) (by omega)
      rw [show ((acc : Int) + (((s.data.toList[i]).toNat : Nat) : Int)) = ((acc + (s.data.toList[i]).toNat : Nat) : Int) by omega, this]
      rw [show decide (i % 2 = 0) = false by simpa using hp, show decide ((i + 1) % 2 = 0) = true by simp; omega]
      simp only [wsum]
      rw [← Nat.add_assoc]
theorem sum_eq (s : ByteArray) (hs : s.size ≤ 65535) (k : Nat) (hk : s.size + 5 ≤ k) : octet_Sum.f k s = some ((isum s.data.toList : Int)) := by
  unfold octet_Sum.f
  have := sum_loop s hs s.size k 0 0 (by omega) (by omega) hk
  rw [show ((0 : Nat) : Int) = 0 from rfl] at this
  rw [this]
  simp [isum]
end Go.Proofs.Ytdmofjhncdkofaa.L04
