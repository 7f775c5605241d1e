/- What the printed functions answer, told by plain functions on bytes: the reference's Number. The reference's Number at a place of a text. -/
import Derived.Test.YtmjpemnlilcpkaaBase
import Derived.Test.YtmjpemnlilcpkaaL7a
import Derived.Test.YtmjpemnlilcpkaaQx13
namespace Go.Proofs.Ytmjpemnlilcpkaa.L04
open Go Go.RowKit Go.Proofs.Ytmjpemnlilcpkaa.Q Go.Proofs.Ytmjpemnlilcpkaa.Base Go.Proofs.YtmjpemnlilcpkaaW.PrintWords Go.Proofs.YtmjpemnlilcpkaaW.PrintMore
set_option linter.unusedVariables false
set_option linter.unusedSimpArgs false

/-! ### Number -/
theorem number_loop (s : ByteArray) (hs : s.size ≤ 7) (d : Nat) : ∀ (k : Nat) (i n : Nat), i + d = s.size → n = num (s.data.toList.take i) → d < k →
    rillmeterref04_Number.l0 k s (n : Int) (i : Int) = some ((num s.data.toList : Int)) := by
  induction d with
  | zero =>
    intro k i n hi hn hk
    obtain ⟨k, rfl⟩ : ∃ m, k = m + 1 := ⟨k - 1, by omega⟩
    simp only [rillmeterref04_Number.l0]
    rw [if_neg (by omega), hn, List.take_of_length_le (by rw [len]; omega)]
  | succ d ih =>
    intro k i n hi hn hk
    obtain ⟨k, rfl⟩ : ∃ m, k = m + 1 := ⟨k - 1, by omega⟩
    have hlt : i < s.data.toList.length := by rw [len]; omega
    have hb : bt s (i : Int) = ((s.data.toList[i]).toNat : Int) := bt_get s i hlt
    have hbl : (s.data.toList[i]).toNat < 256 := UInt8.toNat_lt _
    have hnl : n < 256 ^ 6 := by
      rw [hn]
      refine Nat.lt_of_lt_of_le (num_lt _) (Nat.pow_le_pow_right (by omega) ?_)
      rw [List.length_take]; omega
    have hstep : num (s.data.toList.take (i + 1)) = n * 256 + (s.data.toList[i]).toNat := by
      rw [List.take_succ_eq_append_getElem hlt, num_snoc, hn]
    simp only [rillmeterref04_Number.l0]
    rw [if_pos (by omega), if_pos (by omega)]
    have e1 : wrap64 (wrap64 (256 * (n : Int)) + wrap64 (bt s (i : Int))) = ((num (s.data.toList.take (i + 1)) : Nat) : Int) := by
      rw [hb, w64 (n := 256 * (n : Int)) (by omega) (by omega), w64 (n := (((s.data.toList[i]).toNat : Nat) : Int)) (by omega) (by omega), w64 (by omega) (by omega), hstep]
      omega
    have e2 : wrap64 ((i : Int) + 1) = ((i + 1 : Nat) : Int) := by rw [w64 (by omega) (by omega)]; omega
    rw [e1, e2]
    exact ih k (i + 1) _ (by omega) rfl (by omega)
theorem number_eq (s : ByteArray) (hs : s.size ≤ 7) (k : Nat) (hk : 10 ≤ k) : rillmeterref04_Number.f k s = some ((num s.data.toList : Int)) := by
  unfold rillmeterref04_Number.f
  exact number_loop s hs s.size k 0 0 (by omega) (by simp [num]) (by omega)

end Go.Proofs.Ytmjpemnlilcpkaa.L04
namespace Go.Proofs.Ytmjpemnlilcpkaa.LAt
open Go Go.RowKit Go.Proofs.Ytmjpemnlilcpkaa.Q Go.Proofs.Ytmjpemnlilcpkaa.Base Go.Proofs.Ytmjpemnlilcpkaa.L04 Go.Proofs.YtmjpemnlilcpkaaW.PrintWords Go.Proofs.YtmjpemnlilcpkaaW.PrintMore
theorem refnum_eq (s : ByteArray) (i j : Nat) (h : j ≤ i + 7) (k : Nat) (hk : 10 ≤ k) : rillmeterref04_Number.f k (s.extract i j) = some ((at_ s i j : Nat) : Int) := by
  rw [number_eq _ (by rw [ByteArray.size_extract]; omega) _ hk, extract_list]; rfl
end Go.Proofs.Ytmjpemnlilcpkaa.LAt
