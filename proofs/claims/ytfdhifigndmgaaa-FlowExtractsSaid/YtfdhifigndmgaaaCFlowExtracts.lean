/- What the printed functions answer, told by plain functions on bytes: octet.Cut and octet.Take. What the printed functions answer, told by plain functions on bytes: the reference's Number. What the printed functions answer, told by plain functions on bytes: octet.Put. What the printed functions answer, told by plain functions on bytes: octet.Sum. What the printed functions answer, told by plain functions on bytes: the reference's sum. Numbers and pieces at places of a text; two bytes of a number. The reference's Number at a place of a text. What the printed functions of layer 6 (ipfour) answer, told by plain functions on bytes. The reference's Take of layer 6, told by the same plain function. Layer 6 (ipfour): what stands behind a packet's length turns nothing. What the printed functions of layer 7 (ipsix) answer, told by plain functions on bytes. Layer 7 (ipsix): what is right, and what is written, told by plain functions on lists. Layer 7 (ipsix): what Put writes, and that Take and Put are each other's inverses. Layer 7 (ipsix): Take, told by a plain function; what is taken is written again, and what is written is taken. Layer 7 (ipsix): the reference, where it takes. What the printed functions of layer 8 (port) answer, told by plain functions on bytes. What the printed functions of layer 5 (ether) answer, told by plain functions on bytes. More on layer 5: frames that are too short, and what the writer gives back. Keys of flows (layer 9), told by plain functions on bytes. Layer 9 (flow): the flow of a frame, told by a plain function. Layer 9 (flow): the reference's Extract, told by the same plain function. -/
import Derived.Test.YtfdhifigndmgaaaBase
import Derived.Laws.Bits128
import Derived.Test.YtfdhifigndmgaaaQx7
import Derived.Test.YtfdhifigndmgaaaQx6
import Derived.Test.YtfdhifigndmgaaaQx17
import Derived.Test.YtfdhifigndmgaaaQx3
import Derived.Test.YtfdhifigndmgaaaQx5
import Derived.Test.YtfdhifigndmgaaaQx14
import Derived.Test.YtfdhifigndmgaaaQx9
import Derived.Test.YtfdhifigndmgaaaQx8
import Derived.Test.YtfdhifigndmgaaaQx13
import Derived.Test.YtfdhifigndmgaaaQx12
import Derived.Test.YtfdhifigndmgaaaQx11
import Derived.Test.YtfdhifigndmgaaaQx10
import Derived.Test.YtfdhifigndmgaaaQx2
import Derived.Test.YtfdhifigndmgaaaQx4
import Derived.Test.YtfdhifigndmgaaaQx16
import Derived.Test.YtfdhifigndmgaaaQx15
import Derived.Test.YtfdhifigndmgaaaQx20
import Derived.Test.YtfdhifigndmgaaaQx19
import Derived.Test.YtfdhifigndmgaaaQx18
import Derived.Test.YtfdhifigndmgaaaQx21
import Derived.Test.YtfdhifigndmgaaaQx24
import Derived.Test.YtfdhifigndmgaaaQx23
import Derived.Test.YtfdhifigndmgaaaQx22
import Derived.Test.YtfdhifigndmgaaaQx25
import Derived.Test.YtfdhifigndmgaaaQx26
namespace Go.Proofs.Ytfdhifigndmgaaa.L04
open Go Go.RowKit Go.Proofs.Ytfdhifigndmgaaa.Q Go.Proofs.Ytfdhifigndmgaaa.Base Go.Proofs.YtfdhifigndmgaaaW.PrintWords Go.Proofs.YtfdhifigndmgaaaW.PrintMore
set_option linter.unusedVariables false
set_option linter.unusedSimpArgs false
def cutS (s : ByteArray) (b : Int) : ByteArray × ByteArray × Int :=
  if b < 0 then (mkB [], mkB [], 1) else if (s.size : Int) < b then (mkB [], mkB [], 2) else (s.extract 0 b.toNat, s.extract b.toNat s.size, 0)
theorem cut_eq (s : ByteArray) (b : Int) : octet_Cut.f s b = some (cutS s b) := by
  unfold octet_Cut.f cutS
  by_cases h : b < 0
  · rw [if_pos h, if_pos h]; rfl
  · rw [if_neg h, if_neg h]
    by_cases h1 : (s.size : Int) < b
    · rw [if_pos h1, if_pos h1]; rfl
    · rw [if_neg h1, if_neg h1, if_pos (by omega), if_pos (by omega)]
theorem take_loop (s rest : ByteArray) (hs : s.size ≤ 7) (d : Nat) : ∀ (k : Nat) (i n : Nat), i + d = s.size → n = num (s.data.toList.take i) → d < k →
    octet_Take.l0 k s rest (n : Int) (s.size : Int) (i : Int) = some ((num s.data.toList : Int), rest, 0) := by
  induction d with
  | zero =>
    intro k i n hi hn hk
    obtain ⟨k, rfl⟩ : ∃ m, k = m + 1 := ⟨k - 1, by omega⟩
    simp only [octet_Take.l0]
    rw [if_neg (by omega), hn, List.take_of_length_le (by rw [len]; omega)]
  | succ d ih =>
    intro k i n hi hn hk
    obtain ⟨k, rfl⟩ : ∃ m, k = m + 1 := ⟨k - 1, by omega⟩
    have hlt : i < s.data.toList.length := by rw [len]; omega
    have hb : bt s (i : Int) = ((s.data.toList[i]).toNat : Int) := bt_get s i hlt
    have hbl : (s.data.toList[i]).toNat < 256 := UInt8.toNat_lt _
    have hnl : n < 256 ^ 6 := by
      rw [hn]
      refine Nat.lt_of_lt_of_le (num_lt _) (Nat.pow_le_pow_right (by omega) ?_)
      rw [List.length_take]; omega
    have hstep : num (s.data.toList.take (i + 1)) = n * 256 + (s.data.toList[i]).toNat := by
      rw [List.take_succ_eq_append_getElem hlt, num_snoc, hn]
    simp only [octet_Take.l0]
    rw [if_pos (by omega), if_pos (by omega), if_pos (by omega)]
    have e1 : Go.bits .or .i64 (wrap64 ((n : Int) * 256)) (wrap64 (bt s (i : Int))) = ((num (s.data.toList.take (i + 1)) : Nat) : Int) := by
      rw [w64 (by omega) (by omega), hb, w64 (by omega) (by omega), or_join _ _ (by omega) (by omega) (by omega) (by omega), hstep]
      omega
    have e2 : wrap64 ((i : Int) + 1) = ((i + 1 : Nat) : Int) := by rw [w64 (by omega) (by omega)]; omega
    rw [e1, e2]
    exact ih k (i + 1) _ (by omega) rfl (by omega)
def takeS (s : ByteArray) (b : Int) : Int × ByteArray × Int :=
  if b < 1 ∨ 7 < b then (0, mkB [], 1) else if (s.size : Int) < b then (0, mkB [], 2)
  else ((num (s.data.toList.take b.toNat) : Int), s.extract b.toNat s.size, 0)
theorem take_eq (s : ByteArray) (b : Int) (k : Nat) (hk : 10 ≤ k) : octet_Take.f k s b = some (takeS s b) := by
  obtain ⟨k, rfl⟩ : ∃ m, k = m + 1 := ⟨k - 1, by omega⟩
  unfold octet_Take.f takeS
  by_cases h : b < 1
  · rw [if_pos h, if_pos (.inl h)]; simp only [octet_Take.j0, if_true]; rfl
  · rw [if_neg h]
    by_cases h7 : b > 7
    · rw [if_pos (.inr h7), decide_eq_true h7]; simp only [octet_Take.j0, if_true]; rfl
    · have h8 : ¬ (b < 1 ∨ 7 < b) := by omega
      have h9 : ¬ b < 0 := by omega
      rw [if_neg h8, decide_eq_false h7]; simp only [octet_Take.j0, Bool.false_eq_true, if_false]; rw [cut_eq]
      unfold cutS
      rw [if_neg h9]
      by_cases h1 : (s.size : Int) < b
      · rw [if_pos h1, if_pos h1]; rfl
      · rw [if_neg h1, if_neg h1]; simp only [Option.bind_some, if_true]
        have hz : (s.extract 0 b.toNat).size = b.toNat := by rw [ByteArray.size_extract]; omega
        have := take_loop (s.extract 0 b.toNat) (s.extract b.toNat s.size) (by omega) b.toNat k 0 0 (by omega) (by simp [num]) (by omega)
        rw [hz] at this ⊢
        rw [show ((0 : Nat) : Int) = 0 from rfl] at this
        rw [this]
        have e : (s.extract 0 b.toNat).data.toList = s.data.toList.take b.toNat := by
          have := mkB_extract s.data.toList 0 b.toNat
          rw [mkB_eta] at this
          rw [this, mkB_data]; simp
        rw [e]
end Go.Proofs.Ytfdhifigndmgaaa.L04
namespace Go.Proofs.Ytfdhifigndmgaaa.L04
open Go Go.RowKit Go.Proofs.Ytfdhifigndmgaaa.Q Go.Proofs.Ytfdhifigndmgaaa.Base Go.Proofs.YtfdhifigndmgaaaW.PrintWords Go.Proofs.YtfdhifigndmgaaaW.PrintMore
set_option linter.unusedVariables false
set_option linter.unusedSimpArgs false
theorem number_loop (s : ByteArray) (hs : s.size ≤ 7) (d : Nat) : ∀ (k : Nat) (i n : Nat), i + d = s.size → n = num (s.data.toList.take i) → d < k →
    rillmeterref04_Number.l0 k s (n : Int) (i : Int) = some ((num s.data.toList : Int)) := by
  induction d with
  | zero =>
    intro k i n hi hn hk
    obtain ⟨k, rfl⟩ : ∃ m, k = m + 1 := ⟨k - 1, by omega⟩
    simp only [rillmeterref04_Number.l0]
    rw [if_neg (by omega), hn, List.take_of_length_le (by rw [len]; omega)]
  | succ d ih =>
    intro k i n hi hn hk
    obtain ⟨k, rfl⟩ : ∃ m, k = m + 1 := ⟨k - 1, by omega⟩
    have hlt : i < s.data.toList.length := by rw [len]; omega
    have hb : bt s (i : Int) = ((s.data.toList[i]).toNat : Int) := bt_get s i hlt
    have hbl : (s.data.toList[i]).toNat < 256 := UInt8.toNat_lt _
    have hnl : n < 256 ^ 6 := by
      rw [hn]
      refine Nat.lt_of_lt_of_le (num_lt _) (Nat.pow_le_pow_right (by omega) ?_)
      rw [List.length_take]; omega
    have hstep : num (s.data.toList.take (i + 1)) = n * 256 + (s.data.toList[i]).toNat := by
      rw [List.take_succ_eq_append_getElem hlt, num_snoc, hn]
    simp only [rillmeterref04_Number.l0]
    rw [if_pos (by omega), if_pos (by omega)]
    have e1 : wrap64 (wrap64 (256 * (n : Int)) + wrap64 (bt s (i : Int))) = ((num (s.data.toList.take (i + 1)) : Nat) : Int) := by
      rw [hb, w64 (n := 256 * (n : Int)) (by omega) (by omega), w64 (n := (((s.data.toList[i]).toNat : Nat) : Int)) (by omega) (by omega), w64 (by omega) (by omega), hstep]
      omega
    have e2 : wrap64 ((i : Int) + 1) = ((i + 1 : Nat) : Int) := by rw [w64 (by omega) (by omega)]; omega
    rw [e1, e2]
    exact ih k (i + 1) _ (by omega) rfl (by omega)
theorem number_eq (s : ByteArray) (hs : s.size ≤ 7) (k : Nat) (hk : 10 ≤ k) : rillmeterref04_Number.f k s = some ((num s.data.toList : Int)) := by
  unfold rillmeterref04_Number.f
  exact number_loop s hs s.size k 0 0 (by omega) (by simp [num]) (by omega)
end Go.Proofs.Ytfdhifigndmgaaa.L04
namespace Go.Proofs.Ytfdhifigndmgaaa.L04
open Go Go.RowKit Go.Proofs.Ytfdhifigndmgaaa.Q Go.Proofs.Ytfdhifigndmgaaa.Base Go.Proofs.YtfdhifigndmgaaaW.PrintWords Go.Proofs.YtfdhifigndmgaaaW.PrintMore
set_option linter.unusedVariables false
set_option linter.unusedSimpArgs false
theorem shr_at (a y : Int) (h0 : 0 ≤ y) (h1 : y ≤ 64) : shr .i64 a y = a / 2 ^ y.toNat := by
  unfold shr
  rw [Nat.min_eq_left (by show y.toNat ≤ 64; omega)]
/-- The digits of a number, from the i-th on. -/
def digs (n b : Nat) : Nat → Nat → List Nat
  | _, 0 => []
  | i, d + 1 => (n / 2 ^ (8 * (b - 1 - i)) % 256) :: digs n b (i + 1) d
theorem put_loop (a : Nat) (b : Nat) (hb : b ≤ 7) (d : Nat) : ∀ (k : Nat) (i : Nat) (xs : List Int), i + d = b → xs.length = b → d < k →
    octet_Put.l0 k (a : Int) (b : Int) xs (b : Int) (i : Int) = some (strOfNums (xs.take i ++ (digs a b i d).map fun n : Nat => (n : Int)), 0) := by
  induction d with
  | zero =>
    intro k i xs hi hx hk
    obtain ⟨k, rfl⟩ : ∃ m, k = m + 1 := ⟨k - 1, by omega⟩
    simp only [octet_Put.l0]
    rw [if_neg (by omega)]
    simp [digs, List.take_of_length_le (show xs.length ≤ i by omega)]
  | succ d ih =>
    intro k i xs hi hx hk
    obtain ⟨k, rfl⟩ : ∃ m, k = m + 1 := ⟨k - 1, by omega⟩
    simp only [octet_Put.l0]
    have e0 : wrap64 (8 * wrap64 (wrap64 ((b : Int) - 1) - (i : Int))) = ((8 * (b - 1 - i) : Nat) : Int) := by
      rw [w64 (n := (b : Int) - 1) (by omega) (by omega), w64 (n := (b : Int) - 1 - i) (by omega) (by omega), w64 (by omega) (by omega)]
      omega
    rw [e0, if_pos (by omega), if_pos (by omega), if_pos (by omega), if_pos (by omega), shr_at _ _ (by omega) (by omega)]
    have e2 : wrap64 ((i : Int) + 1) = ((i + 1 : Nat) : Int) := by rw [w64 (by omega) (by omega)]; omega
    rw [e2, ih k (i + 1) _ (by omega) (by simp [hx]) (by omega)]
    have e3 : ((a : Int) / 2 ^ ((8 * (b - 1 - i) : Nat) : Int).toNat % 256) = ((a / 2 ^ (8 * (b - 1 - i)) % 256 : Nat) : Int) := by
      rw [Int.toNat_natCast]; simp
    have e4 : ((i : Int)).toNat = i := by omega
    rw [e3, e4]
    congr 3
    rw [List.take_succ_eq_append_getElem (by simp; omega), List.getElem_set_self, List.take_set_of_le (Nat.le_refl _)]
    simp [digs]
theorem digs_enc (n b : Nat) (hb : b ≤ 7) : strOfNums ((digs n b 0 b).map fun n : Nat => (n : Int)) = mkB (enc n b) := by
  rw [nums_nat]
  congr 1
  have h : b = 0 ∨ b = 1 ∨ b = 2 ∨ b = 3 ∨ b = 4 ∨ b = 5 ∨ b = 6 ∨ b = 7 := by omega
  have key : ∀ m : Nat, (UInt8.ofNat (m % 256) = UInt8.ofNat m) := by
    intro m; apply UInt8.toNat_inj.1; simp
  rcases h with rfl | rfl | rfl | rfl | rfl | rfl | rfl | rfl <;> simp [digs, enc, Nat.div_div_eq_div_mul, key]
def putS (a b : Int) : ByteArray × Int :=
  if b < 1 ∨ 7 < b ∨ a < 0 ∨ (256 ^ b.toNat : Int) ≤ a then (mkB [], 1) else (mkB (enc a.toNat b.toNat), 0)
theorem pow8 (b : Nat) : (2 : Int) ^ (8 * b) = 256 ^ b := by
  rw [Int.pow_mul]; rfl
theorem put_eq (a b : Int) (k : Nat) (hk : 12 ≤ k) : octet_Put.f k a b = some (putS a b) := by
  obtain ⟨k, rfl⟩ : ∃ m, k = m + 1 := ⟨k - 1, by omega⟩
  unfold octet_Put.f putS
  by_cases h1 : b < 1
  · rw [if_pos h1, if_pos (.inl h1)]; simp only [octet_Put.j0, if_true]; rfl
  rw [if_neg h1]
  by_cases h7 : b > 7
  · rw [if_pos h7, if_pos (.inr (.inl h7))]; simp only [octet_Put.j0, if_true]; rfl
  rw [if_neg h7]
  by_cases h0 : a < 0
  · rw [if_pos h0, if_pos (.inr (.inr (.inl h0)))]; simp only [octet_Put.j0, if_true]; rfl
  rw [if_neg h0]
  obtain ⟨B, rfl⟩ := Int.eq_ofNat_of_zero_le (show 0 ≤ b by omega)
  obtain ⟨n, rfl⟩ := Int.eq_ofNat_of_zero_le (show 0 ≤ a by omega)
  have e0 : wrap64 (8 * (B : Int)) = ((8 * B : Nat) : Int) := by rw [w64 (by omega) (by omega)]; omega
  rw [e0, if_pos (by omega), shr_at _ _ (by omega) (by omega)]
  have e1 : (2 : Int) ^ ((8 * B : Nat) : Int).toNat = 256 ^ B := by rw [← pow8]; rfl
  have e2 : ((B : Int)).toNat = B := rfl
  have hp : (0 : Int) < 256 ^ B := Int.pow_pos (by omega)
  rw [e1, e2]
  by_cases hg : (256 ^ B : Int) ≤ (n : Int)
  · rw [if_pos (.inr (.inr (.inr hg)))]
    simp only [octet_Put.j0]
    have : (n : Int) / 256 ^ B ≠ 0 := by
      intro h
      have h2 := Int.mul_ediv_add_emod (n : Int) (256 ^ B)
      have h3 := Int.emod_lt_of_pos (n : Int) hp
      rw [h, Int.mul_zero] at h2
      omega
    rw [if_pos (by simpa using this)]; rfl
  · rw [if_neg (by omega)]
    simp only [octet_Put.j0]
    have hz : (n : Int) / 256 ^ B = 0 := Int.ediv_eq_zero_of_lt (by omega) (by omega)
    rw [hz, if_neg (by simp), if_pos (by omega), if_pos (by omega)]
    simp only [Option.bind_some, List.length_replicate, e2]
    have := put_loop n B (by omega) B k 0 (List.replicate B 0) (by omega) (by simp) (by omega)
    rw [show ((0 : Nat) : Int) = 0 from rfl] at this
    rw [this, List.take_zero, List.nil_append, digs_enc n B (by omega)]
    rfl
end Go.Proofs.Ytfdhifigndmgaaa.L04
namespace Go.Proofs.Ytfdhifigndmgaaa.L04
open Go Go.RowKit Go.Proofs.Ytfdhifigndmgaaa.Q Go.Proofs.Ytfdhifigndmgaaa.Base Go.Proofs.YtfdhifigndmgaaaW.PrintWords Go.Proofs.YtfdhifigndmgaaaW.PrintMore
set_option linter.unusedVariables false
set_option linter.unusedSimpArgs false
theorem sum_tail (n : Nat) (hn : n < 4294901760) (k : Nat) (hk : 4 ≤ k) : octet_Sum.l1 k (n : Int) = some ((65535 - fold n : Nat) : Int) := by
  have last : ∀ (k m : Nat), m ≤ 65535 → 1 ≤ k → octet_Sum.l1 k (m : Int) = some ((65535 - fold m : Nat) : Int) := by
    intro k m hm hk
    obtain ⟨k, rfl⟩ : ∃ m, k = m + 1 := ⟨k - 1, by omega⟩
    simp only [octet_Sum.l1]
    rw [if_neg (by omega), i64_xor _ (by omega) (by omega), fold_small hm]
    congr 1; omega
  have step : ∀ (k m : Nat), 65535 < m → m < 9223372036854775807 → octet_Sum.l1 (k + 1) (m : Int) = octet_Sum.l1 k ((m % 65536 + m / 65536 : Nat) : Int) := by
    intro k m hm h
    simp only [octet_Sum.l1]
    rw [if_pos (by omega), and_low _ (by omega) (by omega), w64 (by omega) (by omega)]
    congr 1
  by_cases h1 : n ≤ 65535
  · exact last k n h1 (by omega)
  obtain ⟨k, rfl⟩ : ∃ m, k = m + 1 := ⟨k - 1, by omega⟩
  rw [step k n (by omega) (by omega), ← fold_step n (by omega)]
  by_cases h2 : n % 65536 + n / 65536 ≤ 65535
  · exact last k _ h2 (by omega)
  obtain ⟨k, rfl⟩ : ∃ m, k = m + 1 := ⟨k - 1, by omega⟩
  rw [step k _ (by omega) (by omega), ← fold_step (n % 65536 + n / 65536) (by omega)]
  exact last k _ (by omega) (by omega)
theorem sum_loop (s : ByteArray) (hs : s.size ≤ 65535) (d : Nat) : ∀ (k i acc : Nat), i + d = s.size → acc ≤ 65280 * i → d + 5 ≤ k →
    octet_Sum.l0 k s (acc : Int) (s.size : Int) (i : Int) = some ((65535 - fold (acc + wsum (decide (i % 2 = 0)) (s.data.toList.drop i)) : Nat) : Int) := by
  induction d with
  | zero =>
    intro k i acc hi ha hk
    obtain ⟨k, rfl⟩ : ∃ m, k = m + 1 := ⟨k - 1, by omega⟩
    simp only [octet_Sum.l0]
    rw [if_neg (by omega), sum_tail acc (by omega) k (by omega), List.drop_eq_nil_of_le (by rw [len]; omega)]
    cases decide (i % 2 = 0) <;> simp [wsum]
  | succ d ih =>
    intro k i acc hi ha hk
    obtain ⟨k, rfl⟩ : ∃ m, k = m + 1 := ⟨k - 1, by omega⟩
    have hlt : i < s.data.toList.length := by rw [len]; omega
    have hb : bt s (i : Int) = ((s.data.toList[i]).toNat : Int) := bt_get s i hlt
    have hbl : (s.data.toList[i]).toNat < 256 := UInt8.toNat_lt _
    simp only [octet_Sum.l0]
    rw [if_pos (by omega), if_pos (by omega), if_pos (by omega), and_one _ (by omega) (by omega)]
    have e2 : wrap64 ((i : Int) + 1) = ((i + 1 : Nat) : Int) := by rw [w64 (by omega) (by omega)]; omega
    rw [List.drop_eq_getElem_cons hlt, hb, e2]
    by_cases hp : i % 2 = 0
    · have e3 : wrap64 (8 * wrap64 (1 - (i : Int) % 2)) = 8 := by rw [show (i : Int) % 2 = 0 by omega]; unfold wrap64; omega
      have e4 : shl .i64 (wrap64 (((s.data.toList[i]).toNat : Nat) : Int)) 8 = ((256 * (s.data.toList[i]).toNat : Nat) : Int) := by
        rw [shl_8 _ (by omega) (by omega)]; omega
      rw [e3, if_pos (by decide), e4]
      clear e3 e4
      rw [w64 (by omega) (by omega)]
      have := ih k (i + 1) (acc + 256 * (s.data.toList[i]).toNat) (by omega) (by omega) (by omega)
      rw [show ((acc : Int) + ((256 * (s.data.toList[i]).toNat : Nat) : Int)) = ((acc + 256 * (s.data.toList[i]).toNat : Nat) : Int) by omega, this]
      rw [show decide (i % 2 = 0) = true by simpa using hp, show decide ((i + 1) % 2 = 0) = false by simp; omega]
      simp only [wsum]
      rw [← Nat.add_assoc]
    · have e3 : wrap64 (8 * wrap64 (1 - (i : Int) % 2)) = 0 := by rw [show (i : Int) % 2 = 1 by omega]; unfold wrap64; omega
      have e4 : shl .i64 (wrap64 (((s.data.toList[i]).toNat : Nat) : Int)) 0 = (((s.data.toList[i]).toNat : Nat) : Int) :=
        shl_0 _ (by omega) (by omega)
      rw [e3, if_pos (by decide), e4]
      clear e3 e4
      rw [w64 (by omega) (by omega)]
      have := ih k (i + 1) (acc + (s.data.toList[i]).toNat) (by omega) (by omega) (by omega)
      rw [show ((acc : Int) + (((s.data.toList[i]).toNat : Nat) : Int)) = ((acc + (s.data.toList[i]).toNat : Nat) : Int) by omega, this]
      rw [show decide (i % 2 = 0) = false by simpa using hp, show decide ((i + 1) % 2 = 0) = true by simp; omega]
      simp only [wsum]
      rw [← Nat.add_assoc]
theorem sum_eq (s : ByteArray) (hs : s.size ≤ 65535) (k : Nat) (hk : s.size + 5 ≤ k) : octet_Sum.f k s = some ((isum s.data.toList : Int)) := by
  unfold octet_Sum.f
  have := sum_loop s hs s.size k 0 0 (by omega) (by omega) hk
  rw [show ((0 : Nat) : Int) = 0 from rfl] at this
  rw [this]
  simp [isum]
end Go.Proofs.Ytfdhifigndmgaaa.L04
namespace Go.Proofs.Ytfdhifigndmgaaa.L04
open Go Go.RowKit Go.Proofs.Ytfdhifigndmgaaa.Q Go.Proofs.Ytfdhifigndmgaaa.Base Go.Proofs.YtfdhifigndmgaaaW.PrintWords Go.Proofs.YtfdhifigndmgaaaW.PrintMore
set_option linter.unusedVariables false
set_option linter.unusedSimpArgs false
theorem refsum_loop (s : ByteArray) (hs : s.size ≤ 65535) (d : Nat) : ∀ (k i acc : Nat), s.size ≤ i + d → i ≤ s.size + 1 → i % 2 = 0 → acc ≤ 65535 → d < k →
    rillmeterref04_Sum.l0 k s (acc : Int) (i : Int) = some ((65535 - fold (acc + wsum true (s.data.toList.drop i)) : Nat) : Int) := by
  induction d using Nat.strongRecOn with
  | ind d ih =>
    intro k i acc hi hi2 hp ha hk
    obtain ⟨k, rfl⟩ : ∃ m, k = m + 1 := ⟨k - 1, by omega⟩
    simp only [rillmeterref04_Sum.l0]
    by_cases hlt0 : i < s.size
    · have hlt : i < s.data.toList.length := by rw [len]; omega
      have hb : bt s (i : Int) = ((s.data.toList[i]).toNat : Int) := bt_get s i hlt
      have hbl : (s.data.toList[i]).toNat < 256 := UInt8.toNat_lt _
      have e2 : wrap64 ((i : Int) + 1) = ((i + 1 : Nat) : Int) := by rw [w64 (by omega) (by omega)]; omega
      have e5 : wrap64 ((i : Int) + 2) = ((i + 2 : Nat) : Int) := by rw [w64 (by omega) (by omega)]; omega
      rw [if_pos (by omega), if_pos (by omega), e2, e5, List.drop_eq_getElem_cons hlt, hb]
      have fin : ∀ m : Nat, m ≤ 65535 → ∀ r, (if ((acc + m : Nat) : Int) > 65535 then rillmeterref04_Sum.l0 k s (wrap64 (((acc + m : Nat) : Int) - 65535)) ((i + 2 : Nat) : Int) else rillmeterref04_Sum.l0 k s ((acc + m : Nat) : Int) ((i + 2 : Nat) : Int)) = some r →
          r = ((65535 - fold (acc + m + wsum true (s.data.toList.drop (i + 2))) : Nat) : Int) → True := fun _ _ _ _ _ => trivial
      have fin : ∀ m : Nat, m ≤ 65535 → (if ((acc + m : Nat) : Int) > 65535 then rillmeterref04_Sum.l0 k s (wrap64 (((acc + m : Nat) : Int) - 65535)) ((i + 2 : Nat) : Int) else rillmeterref04_Sum.l0 k s ((acc + m : Nat) : Int) ((i + 2 : Nat) : Int)) = some ((65535 - fold (acc + m + wsum true (s.data.toList.drop (i + 2))) : Nat) : Int) := by
        intro m hm
        by_cases ho : acc + m > 65535
        · rw [if_pos (by omega), w64 (by omega) (by omega)]
          rw [show ((acc + m : Nat) : Int) - 65535 = ((acc + m - 65535 : Nat) : Int) by omega]
          rw [ih (d - 2) (by omega) k (i + 2) _ (by omega) (by omega) (by omega) (by omega) (by omega)]
          rw [← fold_add (acc + m), fold_over (a := acc + m) (by omega) (by omega)]
        · rw [if_neg (by omega)]
          exact ih (d - 2) (by omega) k (i + 2) _ (by omega) (by omega) (by omega) (by omega) (by omega)
      by_cases hn : i + 1 < s.size
      · have hlt1 : i + 1 < s.data.toList.length := by rw [len]; omega
        have hb1 : bt s ((i + 1 : Nat) : Int) = ((s.data.toList[i + 1]).toNat : Int) := bt_get s (i + 1) hlt1
        have hbl1 : (s.data.toList[i + 1]).toNat < 256 := UInt8.toNat_lt _
        rw [if_pos (by omega), if_pos (by omega), hb1, List.drop_eq_getElem_cons hlt1]
        have e6 : wrap64 ((acc : Int) + wrap64 (wrap64 (256 * wrap64 (((s.data.toList[i]).toNat : Nat) : Int)) + wrap64 (((s.data.toList[i + 1]).toNat : Nat) : Int))) = ((acc + (256 * (s.data.toList[i]).toNat + (s.data.toList[i + 1]).toNat) : Nat) : Int) := by
          rw [w64 (n := (((s.data.toList[i]).toNat : Nat) : Int)) (by omega) (by omega), w64 (n := (((s.data.toList[i + 1]).toNat : Nat) : Int)) (by omega) (by omega), w64 (n := 256 * (((s.data.toList[i]).toNat : Nat) : Int)) (by omega) (by omega)]
          rw [w64 (n := 256 * (((s.data.toList[i]).toNat : Nat) : Int) + _) (by omega) (by omega), w64 (by omega) (by omega)]
          omega
        rw [e6, fin _ (by omega)]
        simp only [wsum]
        rw [Nat.add_assoc, Nat.add_assoc]
      · rw [if_neg (by omega)]
        have e6 : wrap64 ((acc : Int) + wrap64 (256 * wrap64 (((s.data.toList[i]).toNat : Nat) : Int))) = ((acc + 256 * (s.data.toList[i]).toNat : Nat) : Int) := by
          rw [w64 (n := (((s.data.toList[i]).toNat : Nat) : Int)) (by omega) (by omega), w64 (n := 256 * (((s.data.toList[i]).toNat : Nat) : Int)) (by omega) (by omega), w64 (by omega) (by omega)]
          omega
        rw [e6, fin _ (by omega)]
        rw [List.drop_eq_nil_of_le (show s.data.toList.length ≤ i + 1 by rw [len]; omega), List.drop_eq_nil_of_le (show s.data.toList.length ≤ i + 2 by rw [len]; omega)]
        simp only [wsum]
        congr 3
    · rw [if_neg (by omega), w64 (by omega) (by omega), List.drop_eq_nil_of_le (by rw [len]; omega)]
      simp only [wsum, Nat.add_zero]
      rw [fold_small ha]
      congr 1; omega
theorem refsum_eq (s : ByteArray) (hs : s.size ≤ 65535) (k : Nat) (hk : s.size + 5 ≤ k) : rillmeterref04_Sum.f k s = some ((isum s.data.toList : Int)) := by
  unfold rillmeterref04_Sum.f
  have := refsum_loop s hs s.size k 0 0 (by omega) (by omega) (by omega) (by omega) (by omega)
  rw [show ((0 : Nat) : Int) = 0 from rfl] at this
  rw [this]
  simp [isum]
end Go.Proofs.Ytfdhifigndmgaaa.L04
namespace Go.Proofs.Ytfdhifigndmgaaa.LAt
open Go Go.RowKit Go.Proofs.Ytfdhifigndmgaaa.Q Go.Proofs.Ytfdhifigndmgaaa.Base Go.Proofs.Ytfdhifigndmgaaa.L04 Go.Proofs.YtfdhifigndmgaaaW.PrintWords Go.Proofs.YtfdhifigndmgaaaW.PrintMore
set_option linter.unusedVariables false
set_option linter.unusedSimpArgs false
/-- The number of the bytes from i to j. -/
def at_ (s : ByteArray) (i j : Nat) : Nat := num ((s.data.toList.drop i).take (j - i))
theorem at_lt (s : ByteArray) (i j : Nat) : at_ s i j < 256 ^ (j - i) := by
  refine Nat.lt_of_lt_of_le (num_lt _) (Nat.pow_le_pow_right (by omega) ?_)
  rw [List.length_take]; omega
theorem extract_list (s : ByteArray) (a b : Nat) : (s.extract a b).data.toList = (s.data.toList.drop a).take (b - a) := by
  have := mkB_extract s.data.toList a b
  rw [mkB_eta] at this
  rw [this, mkB_data]
theorem app_list (x y : ByteArray) : (x ++ y).data.toList = x.data.toList ++ y.data.toList := by
  conv => lhs; rw [← mkB_eta x, ← mkB_eta y, mkB_app]
  rfl
/-- Take of a piece that begins at a place. -/
theorem take_at (s : ByteArray) (i b : Nat) (hb : 1 ≤ b ∧ b ≤ 7) (hi : i + b ≤ s.size) (k : Nat) (hk : 10 ≤ k) :
    octet_Take.f k (s.extract i s.size) (b : Int) = some (((at_ s i (i + b) : Nat) : Int), s.extract (i + b) s.size, 0) := by
  rw [take_eq _ _ _ hk]
  have hz : (s.extract i s.size).size = s.size - i := by rw [ByteArray.size_extract]; omega
  unfold takeS
  rw [if_neg (by omega), if_neg (by omega)]
  simp only [extract_list, Int.toNat_natCast]
  have e1 : num (List.take b (List.take (s.size - i) (List.drop i s.data.toList))) = at_ s i (i + b) := by
    unfold at_
    rw [List.take_take, show min b (s.size - i) = i + b - i by omega]
  have e2 : (s.extract i s.size).extract b (s.extract i s.size).size = s.extract (i + b) s.size := by
    rw [hz, ByteArray.extract_extract]
    congr 1; omega
  rw [e1, e2]
/-- One byte as a number. -/
theorem at_one (s : ByteArray) (i : Nat) (h : i < s.size) : ((at_ s i (i + 1) : Nat) : Int) = bt s (i : Int) := by
  have hl : i < s.data.toList.length := by rw [len]; exact h
  rw [bt_get s i hl]
  unfold at_
  rw [List.drop_eq_getElem_cons hl, show i + 1 - i = 1 by omega]
  simp [num]
theorem at_two (s : ByteArray) (i : Nat) (h : i + 1 < s.size) : ((at_ s i (i + 2) : Nat) : Int) = 256 * bt s (i : Int) + bt s ((i + 1 : Nat) : Int) := by
  have hl : i < s.data.toList.length := by rw [len]; omega
  have hl1 : i + 1 < s.data.toList.length := by rw [len]; omega
  rw [bt_get s i hl, bt_get s (i + 1) hl1]
  unfold at_
  rw [List.drop_eq_getElem_cons hl, List.drop_eq_getElem_cons hl1, show i + 2 - i = 2 by omega]
  simp [num]; omega
theorem enc_at (s : ByteArray) (i b : Nat) (h : i + b ≤ s.size) : enc (at_ s i (i + b)) b = (s.data.toList.drop i).take b := by
  unfold at_
  rw [show i + b - i = b by omega]
  have hl : ((s.data.toList.drop i).take b).length = b := by rw [List.length_take, List.length_drop, len]; omega
  have := enc_num ((s.data.toList.drop i).take b)
  rw [hl] at this; exact this
def two (n : Int) : List UInt8 := enc n.toNat 2
def one (n : Int) : List UInt8 := enc n.toNat 1
theorem two_length (n : Int) : (two n).length = 2 := enc_length _ _
theorem one_length (n : Int) : (one n).length = 1 := enc_length _ _
theorem putS_two {n : Int} (h0 : 0 ≤ n) (h1 : n ≤ 65535) : putS n 2 = (mkB (two n), 0) := by
  unfold putS
  rw [if_neg (by simp only [show (2 : Int).toNat = 2 from rfl]; omega)]; rfl
theorem putS_one {n : Int} (h0 : 0 ≤ n) (h1 : n ≤ 255) : putS n 1 = (mkB (one n), 0) := by
  unfold putS
  rw [if_neg (by simp only [show (1 : Int).toNat = 1 from rfl]; omega)]; rfl
end Go.Proofs.Ytfdhifigndmgaaa.LAt
namespace Go.Proofs.Ytfdhifigndmgaaa.LAt
open Go Go.RowKit Go.Proofs.Ytfdhifigndmgaaa.Q Go.Proofs.Ytfdhifigndmgaaa.Base Go.Proofs.Ytfdhifigndmgaaa.L04 Go.Proofs.YtfdhifigndmgaaaW.PrintWords Go.Proofs.YtfdhifigndmgaaaW.PrintMore
set_option linter.unusedVariables false
set_option linter.unusedSimpArgs false
theorem refnum_eq (s : ByteArray) (i j : Nat) (h : j ≤ i + 7) (k : Nat) (hk : 10 ≤ k) : rillmeterref04_Number.f k (s.extract i j) = some ((at_ s i j : Nat) : Int) := by
  rw [number_eq _ (by rw [ByteArray.size_extract]; omega) _ hk, extract_list]; rfl
end Go.Proofs.Ytfdhifigndmgaaa.LAt
namespace Go.Proofs.Ytfdhifigndmgaaa.L06
open Go Go.RowKit Go.Proofs.Ytfdhifigndmgaaa.Q Go.Proofs.Ytfdhifigndmgaaa.Base Go.Proofs.Ytfdhifigndmgaaa.L04 Go.Proofs.Ytfdhifigndmgaaa.LAt Go.Proofs.YtfdhifigndmgaaaW.PrintWords Go.Proofs.YtfdhifigndmgaaaW.PrintMore
set_option linter.unusedVariables false
set_option linter.unusedSimpArgs false
structure H4 where
  tos : Int
  id : Int
  flags : Int
  off : Int
  ttl : Int
  proto : Int
  src : ByteArray
  dst : ByteArray
  opt : ByteArray
/-- A right header. -/
def right (h : H4) : Prop :=
  (0 ≤ h.tos ∧ h.tos < 256) ∧ (0 ≤ h.ttl ∧ h.ttl < 256) ∧ (0 ≤ h.proto ∧ h.proto < 256) ∧ (0 ≤ h.id ∧ h.id < 65536) ∧ (0 ≤ h.flags ∧ h.flags < 8) ∧ (0 ≤ h.off ∧ h.off < 8192) ∧
    h.src.size = 4 ∧ h.dst.size = 4 ∧ h.opt.size ≤ 40 ∧ h.opt.size % 4 = 0
instance (h : H4) : Decidable (right h) := by unfold right; infer_instance
def ok4 (h : H4) (body : ByteArray) : Prop := right h ∧ 20 + h.opt.size + body.size ≤ 65535
instance (h : H4) (b : ByteArray) : Decidable (ok4 h b) := by unfold ok4; infer_instance
def zero4 : H4 := ⟨0, 0, 0, 0, 0, 0, mkB [], mkB [], mkB []⟩
/-- What is told, as the function hands it back. -/
def tup (h : H4) (b : ByteArray) (e : Int) : Int × Int × Int × Int × Int × Int × ByteArray × ByteArray × ByteArray × ByteArray × Int :=
  (h.tos, h.id, h.flags, h.off, h.ttl, h.proto, h.src, h.dst, h.opt, b, e)
/-- How long the header says that it is. -/
def hlen (s : ByteArray) : Nat := 4 * ((bt s 0).toNat % 16)
def err4 (s : ByteArray) : Int :=
  if s.size < 20 then 2 else if bt s 0 / 16 ≠ 4 then 10 else if hlen s < 20 ∨ s.size < hlen s then 11
  else if at_ s 2 4 < hlen s ∨ s.size < at_ s 2 4 then 13 else if isum (s.data.toList.take (hlen s)) ≠ 0 then 12 else 0
def h4 (s : ByteArray) : H4 :=
  ⟨(at_ s 1 2 : Nat), (at_ s 4 6 : Nat), (at_ s 6 8 / 8192 : Nat), (at_ s 6 8 % 8192 : Nat), (at_ s 8 9 : Nat), (at_ s 9 10 : Nat), s.extract 12 16, s.extract 16 20, s.extract 20 (hlen s)⟩
def take4 (s : ByteArray) : Int × Int × Int × Int × Int × Int × ByteArray × ByteArray × ByteArray × ByteArray × Int :=
  if err4 s = 0 then tup (h4 s) (s.extract (hlen s) (at_ s 2 4)) 0 else tup zero4 (mkB []) (err4 s)
theorem itake_eq (s : ByteArray) (i b : Nat) (hb : 1 ≤ b ∧ b ≤ 7) (hi : i + b ≤ s.size) (k : Nat) (hk : 10 ≤ k) : ipfour_take.f k s (i : Int) (b : Int) = some ((at_ s i (i + b) : Nat) : Int) := by
  unfold ipfour_take.f
  rw [if_pos (by omega), if_pos (by omega), Int.toNat_natCast, take_at s i b hb hi k hk]; rfl
theorem and15 (x : Int) (h0 : 0 ≤ x) (h1 : x ≤ 255) : Go.bits .and .u8 x 15 = x % 16 := u8_and15 x h0 (by omega)
theorem and8191 (x : Int) (h0 : 0 ≤ x) (h1 : x < 9223372036854775808) : Go.bits .and .i64 x 8191 = x % 8192 :=
  bits_mask .i64 63 (by decide) i64_keeps 13 (by decide) x h0 (by omega)
theorem take4_err {s : ByteArray} {e : Int} (h : err4 s = e) (hne : e ≠ 0) : take4 s = tup zero4 (mkB []) e := by
  unfold take4; rw [h, if_neg hne]
theorem err4_1 {s : ByteArray} (c1 : s.size < 20) : err4 s = 2 := by unfold err4; rw [if_pos c1]
theorem err4_2 {s : ByteArray} (c1 : ¬ s.size < 20) (c2 : bt s 0 / 16 ≠ 4) : err4 s = 10 := by unfold err4; rw [if_neg c1, if_pos c2]
theorem err4_3 {s : ByteArray} (c1 : ¬ s.size < 20) (c2 : bt s 0 / 16 = 4) (c3 : hlen s < 20 ∨ s.size < hlen s) : err4 s = 11 := by unfold err4; rw [if_neg c1, if_neg (not_not_intro c2), if_pos c3]
theorem err4_4 {s : ByteArray} (c1 : ¬ s.size < 20) (c2 : bt s 0 / 16 = 4) (c3 : ¬ (hlen s < 20 ∨ s.size < hlen s)) (c4 : at_ s 2 4 < hlen s ∨ s.size < at_ s 2 4) : err4 s = 13 := by unfold err4; rw [if_neg c1, if_neg (not_not_intro c2), if_neg c3, if_pos c4]
theorem err4_5 {s : ByteArray} (c1 : ¬ s.size < 20) (c2 : bt s 0 / 16 = 4) (c3 : ¬ (hlen s < 20 ∨ s.size < hlen s)) (c4 : ¬ (at_ s 2 4 < hlen s ∨ s.size < at_ s 2 4)) (c5 : isum (s.data.toList.take (hlen s)) ≠ 0) : err4 s = 12 := by unfold err4; rw [if_neg c1, if_neg (not_not_intro c2), if_neg c3, if_neg c4, if_pos c5]
theorem err4_0 {s : ByteArray} (c1 : ¬ s.size < 20) (c2 : bt s 0 / 16 = 4) (c3 : ¬ (hlen s < 20 ∨ s.size < hlen s)) (c4 : ¬ (at_ s 2 4 < hlen s ∨ s.size < at_ s 2 4)) (c5 : isum (s.data.toList.take (hlen s)) = 0) : err4 s = 0 := by unfold err4; rw [if_neg c1, if_neg (not_not_intro c2), if_neg c3, if_neg c4, if_neg (not_not_intro c5)]
theorem err4_ok {s : ByteArray} (h : err4 s = 0) : ¬ s.size < 20 ∧ bt s 0 / 16 = 4 ∧ ¬ (hlen s < 20 ∨ s.size < hlen s) ∧ ¬ (at_ s 2 4 < hlen s ∨ s.size < at_ s 2 4) ∧ isum (s.data.toList.take (hlen s)) = 0 := by
  by_cases c1 : s.size < 20
  · rw [err4_1 c1] at h; exact absurd h (by decide)
  by_cases c2 : bt s 0 / 16 = 4
  case neg => rw [err4_2 c1 c2] at h; exact absurd h (by decide)
  by_cases c3 : hlen s < 20 ∨ s.size < hlen s
  · rw [err4_3 c1 c2 c3] at h; exact absurd h (by decide)
  by_cases c4 : at_ s 2 4 < hlen s ∨ s.size < at_ s 2 4
  · rw [err4_4 c1 c2 c3 c4] at h; exact absurd h (by decide)
  by_cases c5 : isum (s.data.toList.take (hlen s)) = 0
  case neg => rw [err4_5 c1 c2 c3 c4 c5] at h; exact absurd h (by decide)
  exact ⟨c1, c2, c3, c4, c5⟩
theorem hlen_le (s : ByteArray) : hlen s ≤ 60 := by unfold hlen; omega
theorem take4_eq (s : ByteArray) (hs : s.size ≤ 140737488351232) (k : Nat) (hk : 200 ≤ k) : ipfour_Take.f k s = some (take4 s) := by
  obtain ⟨k, rfl⟩ : ∃ m, k = m + 2 := ⟨k - 2, by omega⟩
  have hb := bt_range s 0
  have hq60 := hlen_le s
  unfold ipfour_Take.f
  by_cases c1 : s.size < 20
  · rw [if_pos (by omega), take4_err (err4_1 c1) (by decide)]; rfl
  rw [if_neg (by omega), if_pos (by omega)]
  have t2 := itake_eq s 2 2 (by omega) (by omega) (k + 2) (by omega)
  rw [show ((2 : Nat) : Int) = 2 from rfl, show 2 + 2 = 4 from rfl] at t2
  rw [t2, Option.bind_some]
  by_cases c2 : bt s 0 / 16 = 4
  case neg => rw [if_neg c2, take4_err (err4_2 c1 c2) (by decide)]; rfl
  rw [if_pos c2]
  have eq : wrap64 (4 * wrap64 (Go.bits .and .u8 (bt s 0) 15)) = ((hlen s : Nat) : Int) := by
    rw [and15 _ hb.1 hb.2, w64 (n := bt s 0 % 16) (by omega) (by omega), w64 (by omega) (by omega)]
    unfold hlen; omega
  rw [eq]
  have bad0 : ∀ n, ipfour_Take.j0 (k + 2) s (hlen s : Int) n true = some (tup zero4 (mkB []) 11) := by
    intro n; rw [show k + 2 = (k + 1) + 1 from rfl]; simp only [ipfour_Take.j0, if_true]; rfl
  by_cases c3 : hlen s < 20
  · rw [if_pos (by omega), bad0, take4_err (err4_3 c1 c2 (.inl c3)) (by decide)]
  rw [if_neg (by omega)]
  by_cases c4 : s.size < hlen s
  · rw [decide_eq_true (by omega), bad0, take4_err (err4_3 c1 c2 (.inr c4)) (by decide)]
  have c34 : ¬ (hlen s < 20 ∨ s.size < hlen s) := by omega
  rw [decide_eq_false (by omega), show k + 2 = (k + 1) + 1 from rfl]
  simp only [ipfour_Take.j0, Bool.false_eq_true, if_false]
  have bad1 : ipfour_Take.j1 (k + 1) s (hlen s : Int) (at_ s 2 4 : Int) true = some (tup zero4 (mkB []) 13) := by simp only [ipfour_Take.j1, if_true]; rfl
  by_cases c5 : at_ s 2 4 < hlen s
  · rw [if_pos (by omega), bad1, take4_err (err4_4 c1 c2 c34 (.inl c5)) (by decide)]
  rw [if_neg (by omega)]
  by_cases c6 : s.size < at_ s 2 4
  · rw [decide_eq_true (by omega), bad1, take4_err (err4_4 c1 c2 c34 (.inr c6)) (by decide)]
  have c56 : ¬ (at_ s 2 4 < hlen s ∨ s.size < at_ s 2 4) := by omega
  rw [decide_eq_false (by omega)]
  simp only [ipfour_Take.j1, Bool.false_eq_true, if_false]
  have es : octet_Sum.f k (s.extract 0 ((hlen s : Nat) : Int).toNat) = some ((isum (s.data.toList.take (hlen s)) : Nat) : Int) := by
    rw [sum_eq _ (by rw [ByteArray.size_extract]; omega) _ (by rw [ByteArray.size_extract]; omega), extract_list]; simp
  rw [if_pos (by omega), if_pos (by omega), es, Option.bind_some]
  by_cases c7 : isum (s.data.toList.take (hlen s)) = 0
  case neg => rw [if_neg (by omega), take4_err (err4_5 c1 c2 c34 c56 c7) (by decide)]; rfl
  have t6 := itake_eq s 6 2 (by omega) (by omega) k (by omega)
  have t1 := itake_eq s 1 1 (by omega) (by omega) k (by omega)
  have t4 := itake_eq s 4 2 (by omega) (by omega) k (by omega)
  have t8 := itake_eq s 8 1 (by omega) (by omega) k (by omega)
  have t9 := itake_eq s 9 1 (by omega) (by omega) k (by omega)
  simp only [show ((6 : Nat) : Int) = 6 from rfl, show ((2 : Nat) : Int) = 2 from rfl, show ((1 : Nat) : Int) = 1 from rfl, show ((4 : Nat) : Int) = 4 from rfl, show ((8 : Nat) : Int) = 8 from rfl, show ((9 : Nat) : Int) = 9 from rfl, Nat.reduceAdd] at t6 t1 t4 t8 t9
  rw [if_pos (by omega), t6, t1, t4, t8, t9]
  simp only [Option.bind_some]
  have h68 := at_lt s 6 8
  rw [if_pos (by decide), if_pos (by omega), if_pos (by decide), if_pos (by omega), if_pos (by omega), if_pos (by omega), if_pos (by omega), and8191 _ (by omega) (by omega)]
  unfold take4
  rw [if_pos (err4_0 c1 c2 c34 c56 c7)]
  unfold tup h4
  simp
end Go.Proofs.Ytfdhifigndmgaaa.L06
namespace Go.Proofs.Ytfdhifigndmgaaa.L06
open Go Go.RowKit Go.Proofs.Ytfdhifigndmgaaa.Q Go.Proofs.Ytfdhifigndmgaaa.Base Go.Proofs.Ytfdhifigndmgaaa.L04 Go.Proofs.Ytfdhifigndmgaaa.LAt Go.Proofs.YtfdhifigndmgaaaW.PrintWords Go.Proofs.YtfdhifigndmgaaaW.PrintMore
set_option linter.unusedVariables false
set_option linter.unusedSimpArgs false
theorem reftake4_eq (s : ByteArray) (hs : s.size ≤ 140737488351232) (k : Nat) (hk : 200 ≤ k) : rillmeterref06_Take.f k s = some (take4 s) := by
  obtain ⟨k, rfl⟩ : ∃ m, k = m + 2 := ⟨k - 2, by omega⟩
  have hb := bt_range s 0
  have hq60 := hlen_le s
  unfold rillmeterref06_Take.f
  by_cases c1 : s.size < 20
  · rw [if_pos (by omega), take4_err (err4_1 c1) (by decide)]; rfl
  rw [if_neg (by omega), if_pos (by omega)]
  have e16 : wrap64 (Int.tdiv (wrap64 (bt s 0)) 16) = bt s 0 / 16 := by
    rw [w64 (n := bt s 0) (by omega) (by omega), Int.tdiv_eq_ediv_of_nonneg (by omega), w64 (by omega) (by omega)]
  rw [e16]
  by_cases c2 : bt s 0 / 16 = 4
  case neg => rw [if_neg c2, take4_err (err4_2 c1 c2) (by decide)]; rfl
  rw [if_pos c2]
  have eq : wrap64 (4 * Int.tmod (wrap64 (bt s 0)) 16) = ((hlen s : Nat) : Int) := by
    rw [w64 (n := bt s 0) (by omega) (by omega), Int.tmod_eq_emod_of_nonneg (by omega), w64 (by omega) (by omega)]
    unfold hlen; omega
  rw [eq]
  have bad0 : rillmeterref06_Take.j0 (k + 2) s (hlen s : Int) true = some (tup zero4 (mkB []) 11) := by
    rw [show k + 2 = (k + 1) + 1 from rfl]; simp only [rillmeterref06_Take.j0, if_true]; rfl
  by_cases c3 : hlen s < 20
  · rw [if_pos (by omega), bad0, take4_err (err4_3 c1 c2 (.inl c3)) (by decide)]
  rw [if_neg (by omega)]
  by_cases c4 : s.size < hlen s
  · rw [decide_eq_true (by omega), bad0, take4_err (err4_3 c1 c2 (.inr c4)) (by decide)]
  have c34 : ¬ (hlen s < 20 ∨ s.size < hlen s) := by omega
  rw [decide_eq_false (by omega), show k + 2 = (k + 1) + 1 from rfl]
  simp only [rillmeterref06_Take.j0, Bool.false_eq_true, if_false]
  rw [if_pos (by decide), if_pos (by omega), refnum_eq s 2 4 (by omega) _ (by omega), Option.bind_some]
  have bad1 : rillmeterref06_Take.j1 (k + 1) s (hlen s : Int) (at_ s 2 4 : Int) true = some (tup zero4 (mkB []) 13) := by simp only [rillmeterref06_Take.j1, if_true]; rfl
  by_cases c5 : at_ s 2 4 < hlen s
  · rw [if_pos (by omega), bad1, take4_err (err4_4 c1 c2 c34 (.inl c5)) (by decide)]
  rw [if_neg (by omega)]
  by_cases c6 : s.size < at_ s 2 4
  · rw [decide_eq_true (by omega), bad1, take4_err (err4_4 c1 c2 c34 (.inr c6)) (by decide)]
  have c56 : ¬ (at_ s 2 4 < hlen s ∨ s.size < at_ s 2 4) := by omega
  rw [decide_eq_false (by omega)]
  simp only [rillmeterref06_Take.j1, Bool.false_eq_true, if_false]
  have es : rillmeterref04_Sum.f k (s.extract 0 ((hlen s : Nat) : Int).toNat) = some ((isum (s.data.toList.take (hlen s)) : Nat) : Int) := by
    rw [refsum_eq _ (by rw [ByteArray.size_extract]; omega) _ (by rw [ByteArray.size_extract]; omega), extract_list]; simp
  rw [if_pos (by omega), if_pos (by omega), es, Option.bind_some]
  by_cases c7 : isum (s.data.toList.take (hlen s)) = 0
  case neg => rw [if_neg (by omega), take4_err (err4_5 c1 c2 c34 c56 c7) (by decide)]; rfl
  have b1 := bt_range s 1
  have b8 := bt_range s 8
  have b9 := bt_range s 9
  have a1 := at_one s 1 (by omega)
  have a8 := at_one s 8 (by omega)
  have a9 := at_one s 9 (by omega)
  simp only [show ((1 : Nat) : Int) = 1 from rfl, show ((8 : Nat) : Int) = 8 from rfl, show ((9 : Nat) : Int) = 9 from rfl, Nat.reduceAdd] at a1 a8 a9
  have h68 := at_lt s 6 8
  rw [if_pos (by omega), if_pos (by decide), if_pos (by omega), refnum_eq s 6 8 (by omega) _ (by omega), Option.bind_some, if_pos (by omega), if_pos (by decide), if_pos (by omega), refnum_eq s 4 6 (by omega) _ (by omega), Option.bind_some]
  rw [if_pos (by omega), if_pos (by omega), if_pos (by decide), if_pos (by omega), if_pos (by decide), if_pos (by omega), if_pos (by omega), if_pos (by omega), if_pos (by omega)]
  rw [w64 (n := bt s 1) (by omega) (by omega), w64 (n := bt s 8) (by omega) (by omega), w64 (n := bt s 9) (by omega) (by omega), Int.tdiv_eq_ediv_of_nonneg (by omega), Int.tmod_eq_emod_of_nonneg (by omega), w64 (by omega) (by omega)]
  unfold take4
  rw [if_pos (err4_0 c1 c2 c34 c56 c7)]
  unfold tup h4
  rw [a1, a8, a9]
  simp
end Go.Proofs.Ytfdhifigndmgaaa.L06
namespace Go.Proofs.Ytfdhifigndmgaaa.L06
open Go Go.RowKit Go.Proofs.Ytfdhifigndmgaaa.Q Go.Proofs.Ytfdhifigndmgaaa.Base Go.Proofs.Ytfdhifigndmgaaa.L04 Go.Proofs.Ytfdhifigndmgaaa.LAt Go.Proofs.YtfdhifigndmgaaaW.PrintWords Go.Proofs.YtfdhifigndmgaaaW.PrintMore
set_option linter.unusedVariables false
set_option linter.unusedSimpArgs false
theorem right_h4 (s : ByteArray) (h : err4 s = 0) : right (h4 s) := by
  obtain ⟨c1, c2, c3, c4, c5⟩ := err4_ok h
  have a1 := at_lt s 1 2
  have a2 := at_lt s 4 6
  have a3 := at_lt s 6 8
  have a4 := at_lt s 8 9
  have a5 := at_lt s 9 10
  have hq := hlen_le s
  have hm : hlen s % 4 = 0 := by unfold hlen; omega
  simp only [Nat.reduceSub, show 256 ^ 1 = 256 from rfl, show 256 ^ 2 = 65536 from rfl] at a1 a2 a3 a4 a5
  unfold right h4
  simp only [ByteArray.size_extract]
  omega
end Go.Proofs.Ytfdhifigndmgaaa.L06
namespace Go.Proofs.Ytfdhifigndmgaaa.L07
open Go Go.RowKit Go.Proofs.Ytfdhifigndmgaaa.Q Go.Proofs.Ytfdhifigndmgaaa.Base Go.Proofs.Ytfdhifigndmgaaa.L04 Go.Proofs.Ytfdhifigndmgaaa.LAt Go.Proofs.YtfdhifigndmgaaaW.PrintWords Go.Proofs.YtfdhifigndmgaaaW.PrintMore
set_option linter.unusedVariables false
set_option linter.unusedSimpArgs false
abbrev Xe := S102
abbrev Rx := S97
abbrev Ex := Int × ByteArray
def t1 (p : Ex) : Xe := ⟨p.1, p.2⟩
def t2 (p : Ex) : Rx := ⟨p.1, p.2⟩
def isExt (n : Int) : Bool := n == 0 || n == 43 || n == 44 || n == 60
theorem ext_eq (n : Int) : ipsix_extension.f n = some (isExt n) := by
  unfold ipsix_extension.f isExt
  by_cases h : n = 0
  · rw [if_pos h]; simp [h]
  rw [if_neg h, beq_eq_false_iff_ne.mpr h]
  by_cases h1 : n = 43
  · rw [if_pos h1]; simp [h1]
  rw [if_neg h1, beq_eq_false_iff_ne.mpr h1]
  by_cases h2 : n = 44
  · rw [if_pos h2]; simp [h2]
  rw [if_neg h2, beq_eq_false_iff_ne.mpr h2]; rfl
theorem bt_ext (b : ByteArray) (p i : Nat) (h : p + i < b.size) : bt (b.extract p b.size) (i : Int) = bt b ((p + i : Nat) : Int) := by
  have hz : (b.extract p b.size).size = b.size - p := by rw [ByteArray.size_extract]; omega
  have a1 := at_one (b.extract p b.size) i (by omega)
  have a2 := at_one b (p + i) h
  rw [← a1, ← a2]
  unfold at_
  rw [extract_list, show i + 1 - i = 1 by omega, show p + i + 1 - (p + i) = 1 by omega, List.drop_take, List.drop_drop, List.take_take]
  congr 3; omega
def xl (b : ByteArray) (p : Nat) : Nat := 8 + 8 * (bt b ((p + 1 : Nat) : Int)).toNat
def extS (b : ByteArray) (p : Nat) (kind : Int) : Option (ByteArray × Int × Nat) :=
  if b.size < p + 8 then none
  else if kind = 44 then some (b.extract (p + 1) (p + 8), bt b (p : Int), p + 8)
  else if b.size < p + xl b p then none
  else some (b.extract (p + 2) (p + xl b p), bt b (p : Int), p + xl b p)
def extO (b : ByteArray) (kind : Int) : Option (ByteArray × Int × Nat) → Int × ByteArray × Int × ByteArray × Bool
  | none => (0, mkB [], 0, mkB [], false)
  | some (d, n, q) => (kind, d, n, b.extract q b.size, true)
theorem ext2 (b : ByteArray) (p i j : Nat) (h : p + j ≤ b.size) : (b.extract p b.size).extract i j = b.extract (p + i) (p + j) := by
  rw [ByteArray.extract_extract, show min (p + j) b.size = p + j by omega]
theorem ext2e (b : ByteArray) (p i : Nat) (h : p ≤ b.size) : (b.extract p b.size).extract i (b.size - p) = b.extract (p + i) b.size := by
  rw [ByteArray.extract_extract, show min (p + (b.size - p)) b.size = b.size by omega]
theorem xt_eq (b : ByteArray) (p : Nat) (kind : Int) (hp : p ≤ b.size) : ipsix_ext.f kind (b.extract p b.size) = some (extO b kind (extS b p kind)) := by
  have hz : (b.extract p b.size).size = b.size - p := by rw [ByteArray.size_extract]; omega
  unfold ipsix_ext.f extS
  rw [hz]
  by_cases c1 : b.size < p + 8
  · rw [if_pos (by omega), if_pos c1]; rfl
  rw [if_neg (by omega), if_neg c1]
  have b0 : bt (b.extract p b.size) 0 = bt b (p : Int) := bt_ext b p 0 (by omega)
  have b1 : bt (b.extract p b.size) 1 = bt b ((p + 1 : Nat) : Int) := bt_ext b p 1 (by omega)
  have r0 := bt_range b (p : Int)
  have r1 := bt_range b ((p + 1 : Nat) : Int)
  rw [b0, b1, w64 (n := bt b (p : Int)) (by omega) (by omega)]
  by_cases c2 : kind = 44
  · rw [if_pos c2, if_pos c2, if_pos (by decide), if_pos (by omega), if_pos (by omega), ext2 b p 1 8 (by omega), ext2e b p 8 hp]
    simp only [extO]
  rw [if_neg c2, if_neg c2, if_pos (by omega)]
  have e : wrap64 (8 + wrap64 (8 * wrap64 (bt b ((p + 1 : Nat) : Int)))) = ((xl b p : Nat) : Int) := by
    rw [w64 (n := bt b ((p + 1 : Nat) : Int)) (by omega) (by omega), w64 (n := 8 * bt b ((p + 1 : Nat) : Int)) (by omega) (by omega), w64 (by omega) (by omega)]
    unfold xl; omega
  have hx : 8 ≤ xl b p := by unfold xl; omega
  rw [e]
  by_cases c3 : b.size < p + xl b p
  · rw [if_pos (by omega), if_pos c3]; rfl
  rw [if_neg (by omega), if_neg c3, if_pos (by omega), if_pos (by omega), if_pos (by omega), if_pos (by omega), Int.toNat_natCast, ext2 b p 2 _ (by omega), ext2e b p _ hp]
  simp only [extO]
theorem extS_le {b : ByteArray} {p : Nat} {kind : Int} {d : ByteArray} {n : Int} {q : Nat} (h : extS b p kind = some (d, n, q)) : p + 8 ≤ q ∧ q ≤ b.size := by
  unfold extS at h
  split at h
  · cases h
  · split at h
    · cases h; omega
    · split at h
      · cases h
      · cases h
        have : 8 ≤ xl b p := by unfold xl; omega
        omega
def cs (b : ByteArray) : Nat → Nat → Int → List Ex → Except Int (List Ex × Int × Nat)
  | 0, _, _, _ => .error 15
  | f + 1, p, kind, l =>
    if isExt kind = true then
      match extS b p kind with
      | none => .error 15
      | some (d, n, q) => if l.length = 8 ∨ (kind = 0 ∧ l.length > 0) then .error 15 else cs b f q n (l ++ [(kind, d)])
    else .ok (l, kind, p)
abbrev Hd (T : Type) := Int × Int × Int × Int × ByteArray × ByteArray × List T × ByteArray × Int
def outH {T : Type} (t : Ex → T) (b : ByteArray) (c la ho : Int) (src dst : ByteArray) : Except Int (List Ex × Int × Nat) → Hd T
  | .error e => (0, 0, 0, 0, mkB [], mkB [], [], mkB [], e)
  | .ok (l, kind, q) => (c, la, ho, kind, src, dst, l.map t, b.extract q b.size, 0)
theorem take_loop (b src dst : ByteArray) (c la ho : Int) (f : Nat) : ∀ (p : Nat) (kind : Int) (l : List Ex) (k : Nat), p ≤ b.size → l.length + f = 9 → l.length ≤ 8 → f < k →
    ipsix_Take.l0 k (b.extract p b.size) c la ho kind src dst (l.map t1) = some (outH t1 b c la ho src dst (cs b f p kind l)) := by
  induction f with
  | zero => intro p kind l k hp h1 h2 hk; omega
  | succ f ih =>
    intro p kind l k hp h1 h2 hk
    obtain ⟨k, rfl⟩ : ∃ m, k = m + 1 := ⟨k - 1, by omega⟩
    simp only [ipsix_Take.l0]
    unfold cs
    rw [ext_eq, Option.bind_some]
    by_cases hx : isExt kind = true
    · rw [if_pos hx, if_pos hx, xt_eq b p kind hp, Option.bind_some]
      cases e : extS b p kind with
      | none => rfl
      | some v =>
        obtain ⟨d, n, q⟩ := v
        have hq := extS_le e
        simp only [extO, if_true, List.length_map]
        by_cases c8 : l.length = 8
        · rw [if_pos (by omega), if_pos (.inl c8)]; rfl
        rw [if_neg (by omega)]
        have := ih q n (l ++ [(kind, d)]) k hq.2 (by simp; omega) (by simp; omega) (by omega)
        rw [List.map_append] at this
        by_cases c0 : kind = 0
        · rw [if_pos c0]
          by_cases cl : (l.length : Int) > 0
          · rw [if_pos cl, if_pos (.inr ⟨c0, by omega⟩)]; rfl
          · rw [if_neg cl, if_pos (by omega), if_neg (by omega)]; exact this
        · rw [if_neg c0, if_pos (by omega), if_neg (by omega)]; exact this
    · rw [if_neg hx, if_neg hx]; rfl
end Go.Proofs.Ytfdhifigndmgaaa.L07
namespace Go.Proofs.Ytfdhifigndmgaaa.L07
open Go Go.RowKit Go.Proofs.Ytfdhifigndmgaaa.Q Go.Proofs.Ytfdhifigndmgaaa.Base Go.Proofs.Ytfdhifigndmgaaa.L04 Go.Proofs.Ytfdhifigndmgaaa.LAt Go.Proofs.YtfdhifigndmgaaaW.PrintWords Go.Proofs.YtfdhifigndmgaaaW.PrintMore
set_option linter.unusedVariables false
set_option linter.unusedSimpArgs false
theorem getq {l : List Ex} {i : Nat} {p : Ex} {r : List Ex} (h : l.drop i = p :: r) : l[i]? = some p := by
  have e : (l.drop i)[0]? = l[i + 0]? := List.getElem?_drop
  rw [h] at e
  exact e.symm
theorem rd1 {l : List Ex} {i : Nat} {p : Ex} {r : List Ex} (h : l.drop i = p :: r) : rd_T102 (l.map t1) (i : Int) = t1 p := by
  have h0 : l[i]? = some p := getq h
  unfold rd_T102
  rw [List.getD_eq_getElem?_getD, Int.toNat_natCast, List.getElem?_map, h0]; rfl
theorem rd2 {l : List Ex} {i : Nat} {p : Ex} {r : List Ex} (h : l.drop i = p :: r) : rd_T97 (l.map t2) (i : Int) = t2 p := by
  have h0 : l[i]? = some p := getq h
  unfold rd_T97
  rw [List.getD_eq_getElem?_getD, Int.toNat_natCast, List.getElem?_map, h0]; rfl
theorem drop_len {l : List Ex} {i : Nat} {p : Ex} {r : List Ex} (h : l.drop i = p :: r) : i < l.length ∧ l.length = i + 1 + r.length ∧ l.drop (i + 1) = r := by
  have h1 := congrArg List.length h
  rw [List.length_drop, List.length_cons] at h1
  refine ⟨by omega, by omega, ?_⟩
  rw [← List.drop_drop, h]; rfl
def okE (p : Ex) : Bool := if p.1 = 44 then decide (p.2.size = 7) else isExt p.1 && (decide (6 ≤ p.2.size) && (decide (p.2.size ≤ 2046) && decide (p.2.size % 8 = 6)))
def okC : Bool → List Ex → Bool
  | _, [] => true
  | fst, p :: r => okE p && ((p.1 != 0 || fst) && okC false r)
theorem okC_cons (f : Bool) (p : Ex) (r : List Ex) : okC f (p :: r) = (okE p && ((p.1 != 0 || f) && okC false r)) := rfl
structure H6 where
  cl : Int
  la : Int
  ho : Int
  pr : Int
  src : ByteArray
  dst : ByteArray
  ch : List Ex
def okR (h : H6) : Prop :=
  (0 ≤ h.cl ∧ h.cl < 256) ∧ (0 ≤ h.ho ∧ h.ho < 256) ∧ (0 ≤ h.la ∧ h.la < 1048576) ∧ (0 ≤ h.pr ∧ h.pr < 256) ∧ isExt h.pr = false ∧ h.src.size = 16 ∧ h.dst.size = 16 ∧ h.ch.length ≤ 8
instance (h : H6) : Decidable (okR h) := by unfold okR; infer_instance
def right (h : H6) : Bool := okC true h.ch && decide (okR h)
end Go.Proofs.Ytfdhifigndmgaaa.L07
namespace Go.Proofs.Ytfdhifigndmgaaa.L07
open Go Go.RowKit Go.Proofs.Ytfdhifigndmgaaa.Q Go.Proofs.Ytfdhifigndmgaaa.Base Go.Proofs.Ytfdhifigndmgaaa.L04 Go.Proofs.Ytfdhifigndmgaaa.LAt Go.Proofs.YtfdhifigndmgaaaW.PrintWords Go.Proofs.YtfdhifigndmgaaaW.PrintMore
set_option linter.unusedVariables false
set_option linter.unusedSimpArgs false
def kindOf (r : List Ex) (pr : Int) : Int := match r with | [] => pr | q :: _ => q.1
def encE (p : Ex) : List UInt8 := if p.1 = 44 then p.2.data.toList else one (((p.2.size : Int) - 6) / 8) ++ p.2.data.toList
def encC (pr : Int) : List Ex → List UInt8
  | [] => []
  | p :: r => one (kindOf r pr) ++ encE p ++ encC pr r
theorem encC_cons (pr : Int) (p : Ex) (r : List Ex) : encC pr (p :: r) = one (kindOf r pr) ++ encE p ++ encC pr r := rfl
def word (h : H6) : Int := 1610612736 + h.cl * 1048576 + h.la
def put6 (h : H6) (body : ByteArray) : List UInt8 :=
  enc (word h).toNat 4 ++ two (((encC h.pr h.ch).length + body.size : Nat) : Int) ++ one (kindOf h.ch h.pr) ++ one h.ho ++ h.src.data.toList ++ h.dst.data.toList ++ (encC h.pr h.ch ++ body.data.toList)
def fits (h : H6) (body : ByteArray) : Prop := (encC h.pr h.ch).length + body.size ≤ 65535
instance (h : H6) (b : ByteArray) : Decidable (fits h b) := by unfold fits; infer_instance
theorem right_iff (h : H6) : right h = true ↔ okC true h.ch = true ∧ okR h := by
  unfold right
  rw [Bool.and_eq_true, decide_eq_true_eq]
end Go.Proofs.Ytfdhifigndmgaaa.L07
namespace Go.Proofs.Ytfdhifigndmgaaa.L07
open Go Go.RowKit Go.Proofs.Ytfdhifigndmgaaa.Q Go.Proofs.Ytfdhifigndmgaaa.Base Go.Proofs.Ytfdhifigndmgaaa.L04 Go.Proofs.Ytfdhifigndmgaaa.LAt Go.Proofs.YtfdhifigndmgaaaW.PrintWords Go.Proofs.YtfdhifigndmgaaaW.PrintMore
set_option linter.unusedVariables false
set_option linter.unusedSimpArgs false
theorem and_255 (x : Int) (h0 : 0 ≤ x) (h1 : x < 9223372036854775808) : Go.bits .and .i64 x 255 = x % 256 :=
  bits_mask .i64 63 (by decide) i64_keeps 8 (by decide) x h0 (by omega)
theorem and_20 (x : Int) (h0 : 0 ≤ x) (h1 : x < 9223372036854775808) : Go.bits .and .i64 x 1048575 = x % 1048576 :=
  bits_mask .i64 63 (by decide) i64_keeps 20 (by decide) x h0 (by omega)
theorem at_top (s : ByteArray) (h : 40 ≤ s.size) : ((at_ s 0 4 / 268435456 : Nat) : Int) = bt s 0 / 16 := by
  have hl : 0 < s.data.toList.length := by rw [len]; omega
  have hb := bt_get s 0 hl
  rw [show ((0 : Nat) : Int) = 0 from rfl] at hb
  have e : at_ s 0 4 = (s.data.toList[0]).toNat * 256 ^ 3 + num ((s.data.toList.drop 1).take 3) := by
    unfold at_
    rw [List.drop_zero]
    have e1 : s.data.toList = s.data.toList[0] :: s.data.toList.drop 1 := by
      have := List.drop_eq_getElem_cons hl
      rw [List.drop_zero] at this; exact this
    have e2 : s.data.toList.take 4 = s.data.toList[0] :: (s.data.toList.drop 1).take 3 := by
      conv => lhs; rw [e1]
      rfl
    rw [show 4 - 0 = 4 from rfl, e2, num]
    have : ((s.data.toList.drop 1).take 3).length = 3 := by rw [List.length_take, List.length_drop, len]; omega
    rw [this]
  have hr := num_lt ((s.data.toList.drop 1).take 3)
  have h3 : ((s.data.toList.drop 1).take 3).length = 3 := by rw [List.length_take, List.length_drop, len]; omega
  rw [h3] at hr
  generalize num ((s.data.toList.drop 1).take 3) = m at e hr
  rw [hb, e]
  simp only [show (256 : Nat) ^ 3 = 16777216 from rfl] at hr ⊢
  omega
def body6 (s : ByteArray) : ByteArray := s.extract 40 (40 + at_ s 4 6)
def chain6 (s : ByteArray) : Except Int (List Ex × Int × Nat) := cs (body6 s) 9 0 (bt s 6) []
def take6 {T : Type} (t : Ex → T) (s : ByteArray) : Hd T :=
  if s.size < 40 then outH t s 0 0 0 s s (.error 2)
  else if at_ s 0 4 / 268435456 ≠ 6 then outH t s 0 0 0 s s (.error 10)
  else if s.size < 40 + at_ s 4 6 then outH t s 0 0 0 s s (.error 13)
  else outH t (body6 s) ((at_ s 0 4 / 1048576 % 256 : Nat) : Int) ((at_ s 0 4 % 1048576 : Nat) : Int) (bt s 7) (s.extract 8 24) (s.extract 24 40) (chain6 s)
theorem body6_size (s : ByteArray) (h : 40 + at_ s 4 6 ≤ s.size) : (body6 s).size = at_ s 4 6 := by unfold body6; rw [ByteArray.size_extract]; omega
theorem ext_all (b : ByteArray) : b.extract 0 b.size = b := by
  apply ByteArray.ext
  apply Array.toList_inj.mp
  rw [extract_list, List.drop_zero, List.take_of_length_le (by rw [len]; omega)]
theorem take6_eq (s : ByteArray) (hs : s.size ≤ 140737488351232) (k : Nat) (hk : 20 ≤ k) : ipsix_Take.f k s = some (take6 t1 s) := by
  unfold ipsix_Take.f take6
  by_cases c1 : s.size < 40
  · rw [if_pos (by omega), if_pos c1]; rfl
  have a1 := take_at s 0 4 (by omega) (by omega) k (by omega)
  have a2 := take_at s 4 2 (by omega) (by omega) k (by omega)
  rw [ext_all] at a1
  rw [show ((4 : Nat) : Int) = 4 from rfl] at a1
  rw [show ((2 : Nat) : Int) = 2 from rfl] at a2
  have b6 := bt_range s 6
  have b7 := bt_range s 7
  have l4 := at_lt s 0 4
  have l6 := at_lt s 4 6
  simp only [show (256 : Nat) ^ (4 - 0) = 4294967296 from rfl, show (256 : Nat) ^ (6 - 4) = 65536 from rfl] at l4 l6
  rw [if_neg (by omega), if_neg c1, a1, Option.bind_some, if_pos (by omega), a2, Option.bind_some]
  simp only [Nat.zero_add, show 4 + 2 = 6 from rfl]
  rw [if_pos (by omega), if_pos (by omega), if_pos (by decide), if_pos (by omega), if_pos (by decide), if_pos (by omega)]
  by_cases c2 : at_ s 0 4 / 268435456 = 6
  case neg => rw [if_neg (by omega), if_pos c2]; rfl
  rw [if_pos (by omega), w64 (n := (s.size : Int) - 40) (by omega) (by omega), if_neg (show ¬ (at_ s 0 4 / 268435456 ≠ 6) by omega)]
  by_cases c3 : s.size < 40 + at_ s 4 6
  · rw [if_pos (by omega), if_pos c3]; rfl
  rw [if_neg (by omega), if_neg c3, w64 (n := 40 + ((at_ s 4 6 : Nat) : Int)) (by omega) (by omega), if_pos (by omega), if_pos (by omega), and_255 _ (by omega) (by omega), and_20 _ (by omega) (by omega), w64 (n := bt s 7) (by omega) (by omega), w64 (n := bt s 6) (by omega) (by omega)]
  have e1 : ((40 + ((at_ s 4 6 : Nat) : Int) : Int)).toNat = 40 + at_ s 4 6 := by omega
  have e2 : ((at_ s 0 4 : Nat) : Int) / 1048576 % 256 = ((at_ s 0 4 / 1048576 % 256 : Nat) : Int) := by omega
  have e3 : ((at_ s 0 4 : Nat) : Int) % 1048576 = ((at_ s 0 4 % 1048576 : Nat) : Int) := by omega
  rw [e1, e2, e3]
  have := take_loop (body6 s) (s.extract 8 24) (s.extract 24 40) ((at_ s 0 4 / 1048576 % 256 : Nat) : Int) ((at_ s 0 4 % 1048576 : Nat) : Int) (bt s 7) 9 0 (bt s 6) [] k (by omega) rfl (by simp) (by omega)
  rw [ext_all] at this
  exact this
theorem one_bt (s : ByteArray) (i : Nat) (h : i < s.size) : one (bt s (i : Int)) = (s.data.toList.drop i).take 1 := by
  have h1 := at_one s i h
  have h2 := enc_at s i 1 (by omega)
  unfold one
  rw [← h1, Int.toNat_natCast]; exact h2
theorem drop_split (l : List UInt8) (i n : Nat) : l.drop i = (l.drop i).take n ++ l.drop (i + n) := by
  rw [← List.drop_drop, List.take_append_drop]
theorem cs_dec (b : ByteArray) (f : Nat) : ∀ (p : Nat) (kind : Int) (l l' : List Ex) (kind' : Int) (q : Nat), p ≤ b.size → l.length ≤ 8 → (0 ≤ kind ∧ kind ≤ 255) → cs b f p kind l = .ok (l', kind', q) →
    ∃ r, l' = l ++ r ∧ okC l.isEmpty r = true ∧ kind = kindOf r kind' ∧ q ≤ b.size ∧ b.data.toList.drop p = encC kind' r ++ b.data.toList.drop q ∧ isExt kind' = false ∧ (0 ≤ kind' ∧ kind' ≤ 255) ∧ l'.length ≤ 8 := by
  induction f with
  | zero => intro p kind l l' kind' q _ _ _ h; cases h
  | succ f ih =>
    intro p kind l l' kind' q hp hl hk h
    unfold cs at h
    by_cases hx : isExt kind = true
    case neg =>
      rw [if_neg hx] at h
      cases h
      exact ⟨[], (List.append_nil _).symm, rfl, rfl, hp, rfl, by simpa using hx, hk, hl⟩
    rw [if_pos hx] at h
    cases he : extS b p kind with
    | none => rw [he] at h; cases h
    | some v =>
      obtain ⟨d, n, q1⟩ := v
      rw [he] at h
      simp only at h
      by_cases hc : l.length = 8 ∨ (kind = 0 ∧ l.length > 0)
      · rw [if_pos hc] at h; cases h
      rw [if_neg hc] at h
      have hq := extS_le he
      have hn : n = bt b (p : Int) := by
        unfold extS at he
        split at he
        · cases he
        · split at he
          · cases he; rfl
          · split at he
            · cases he
            · cases he; rfl
      have hb := bt_range b (p : Int)
      obtain ⟨r, e1, e2, e3, e4, e5, e6, e7, e8⟩ := ih q1 n (l ++ [(kind, d)]) l' kind' q hq.2 (by rw [List.length_append]; simp only [List.length_cons, List.length_nil]; omega) (by omega) h
      have hd : okE (kind, d) = true ∧ b.data.toList.drop (p + 1) = encE (kind, d) ++ b.data.toList.drop q1 := by
        unfold extS at he
        by_cases c1 : b.size < p + 8
        · rw [if_pos c1] at he; cases he
        rw [if_neg c1] at he
        by_cases c4 : kind = 44
        · rw [if_pos c4] at he
          cases he
          constructor
          · unfold okE
            rw [if_pos c4]
            exact decide_eq_true (by show (b.extract (p + 1) (p + 8)).size = 7; rw [ByteArray.size_extract]; omega)
          · unfold encE
            rw [if_pos c4]
            show _ = (b.extract (p + 1) (p + 8)).data.toList ++ _
            rw [extract_list, show p + 8 - (p + 1) = 7 by omega]
            exact drop_split _ (p + 1) 7
        · rw [if_neg c4] at he
          by_cases c3 : b.size < p + xl b p
          · rw [if_pos c3] at he; cases he
          rw [if_neg c3] at he
          have hb1 := bt_range b ((p + 1 : Nat) : Int)
          have hxl : xl b p = 8 + 8 * (bt b ((p + 1 : Nat) : Int)).toNat := rfl
          cases he
          have hz : (b.extract (p + 2) (p + xl b p)).size = xl b p - 2 := by rw [ByteArray.size_extract]; omega
          constructor
          · unfold okE
            rw [if_neg c4]
            show (isExt kind && _) = true
            rw [hx, Bool.true_and]
            show (decide (6 ≤ (b.extract (p + 2) (p + xl b p)).size) && (decide ((b.extract (p + 2) (p + xl b p)).size ≤ 2046) && decide ((b.extract (p + 2) (p + xl b p)).size % 8 = 6))) = true
            rw [hz, decide_eq_true (by omega), decide_eq_true (by omega), decide_eq_true (by omega)]; rfl
          · unfold encE
            rw [if_neg c4]
            show _ = one ((((b.extract (p + 2) (p + xl b p)).size : Int) - 6) / 8) ++ (b.extract (p + 2) (p + xl b p)).data.toList ++ _
            have e0 : (((b.extract (p + 2) (p + xl b p)).size : Int) - 6) / 8 = bt b ((p + 1 : Nat) : Int) := by rw [hz]; omega
            rw [e0, one_bt b (p + 1) (by omega), extract_list, show p + xl b p - (p + 2) = xl b p - 2 by omega, drop_split b.data.toList (p + 1) 1, List.append_assoc]
            congr 1
            · rw [← drop_split]
            · rw [show p + 1 + 1 = p + 2 by omega]
              refine (drop_split b.data.toList (p + 2) (xl b p - 2)).trans ?_
              rw [show p + 2 + (xl b p - 2) = p + xl b p by omega]
      obtain ⟨hd1, hd2⟩ := hd
      refine ⟨(kind, d) :: r, ?_, ?_, rfl, e4, ?_, e6, e7, e8⟩
      · rw [e1, List.append_assoc]; rfl
      · rw [okC_cons, hd1, Bool.true_and]
        have hne : (l ++ [(kind, d)]).isEmpty = false := by cases l <;> rfl
        rw [hne] at e2
        rw [e2, Bool.and_true]
        show (kind != 0 || l.isEmpty) = true
        by_cases h0 : kind = 0
        · have : l = [] := by
            cases l with
            | nil => rfl
            | cons a l => exact absurd (Or.inr ⟨h0, by simp⟩) hc
          rw [this]; simp
        · rw [bne_iff_ne.mpr h0]; rfl
      · rw [encC_cons, ← e3, hn, one_bt b p (by omega), List.append_assoc, List.append_assoc, ← e5, ← hd2]
        exact drop_split _ p 1
/-- What Take tells, where it refuses nothing. -/
def ok6 (s : ByteArray) : Prop := 40 ≤ s.size ∧ at_ s 0 4 / 268435456 = 6 ∧ 40 + at_ s 4 6 ≤ s.size
theorem take6_ok {T : Type} (t : Ex → T) {s : ByteArray} (h : ok6 s) :
    take6 t s = outH t (body6 s) ((at_ s 0 4 / 1048576 % 256 : Nat) : Int) ((at_ s 0 4 % 1048576 : Nat) : Int) (bt s 7) (s.extract 8 24) (s.extract 24 40) (chain6 s) := by
  obtain ⟨h1, h2, h3⟩ := h
  unfold take6
  rw [if_neg (by omega), if_neg (by omega), if_neg (by omega)]
/-- Either Take refuses, or what is taken is a right header, that is written as it stood there. -/
theorem take6_cases (s : ByteArray) : (∃ e, (e = 2 ∨ e = 10 ∨ e = 13 ∨ e = 15) ∧ ∀ (T : Type) (t : Ex → T), take6 t s = (0, 0, 0, 0, mkB [], mkB [], [], mkB [], e)) ∨
    ∃ (h : H6) (body : ByteArray), (∀ (T : Type) (t : Ex → T), take6 t s = (h.cl, h.la, h.ho, h.pr, h.src, h.dst, h.ch.map t, body, 0)) ∧ right h = true ∧ fits h body ∧ put6 h body = s.data.toList.take (40 + at_ s 4 6) ∧ ok6 s := by
  by_cases c1 : s.size < 40
  · exact .inl ⟨2, .inl rfl, fun T t => by unfold take6; rw [if_pos c1]; rfl⟩
  by_cases c2 : at_ s 0 4 / 268435456 = 6
  case neg => exact .inl ⟨10, .inr (.inl rfl), fun T t => by unfold take6; rw [if_neg c1, if_pos c2]; rfl⟩
  by_cases c3 : s.size < 40 + at_ s 4 6
  · exact .inl ⟨13, .inr (.inr (.inl rfl)), fun T t => by unfold take6; rw [if_neg c1, if_neg (by omega), if_pos c3]; rfl⟩
  have hok : ok6 s := ⟨by omega, c2, by omega⟩
  cases hc : chain6 s with
  | error e =>
    have : e = 15 := by
      have : ∀ (f p : Nat) (kind : Int) (l : List Ex) (e : Int), cs (body6 s) f p kind l = .error e → e = 15 := by
        intro f
        induction f with
        | zero => intro p kind l e h; cases h; rfl
        | succ f ih =>
          intro p kind l e h
          unfold cs at h
          by_cases hx : isExt kind = true
          · rw [if_pos hx] at h
            cases he : extS (body6 s) p kind with
            | none => rw [he] at h; cases h; rfl
            | some v =>
              rw [he] at h
              simp only at h
              split at h
              · cases h; rfl
              · exact ih _ _ _ _ h
          · rw [if_neg hx] at h; cases h
      exact this _ _ _ _ _ hc
    exact .inl ⟨15, .inr (.inr (.inr rfl)), fun T t => by rw [take6_ok t hok, hc, this]; rfl⟩
  | ok v =>
    obtain ⟨l', pr, q⟩ := v
    have b6 := bt_range s 6
    have b7 := bt_range s 7
    have hbz := body6_size s (by omega)
    obtain ⟨r, e1, e2, e3, e4, e5, e6, e7, e8⟩ := cs_dec (body6 s) 9 0 (bt s 6) [] l' pr q (by omega) (by simp) (by omega) hc
    rw [List.nil_append] at e1
    subst e1
    rw [List.drop_zero] at e5
    have hq := congrArg List.length e5
    rw [List.length_append, List.length_drop, len] at hq
    have hbody : ((body6 s).extract q (body6 s).size).size = (body6 s).size - q := by rw [ByteArray.size_extract]; omega
    have l4 := at_lt s 0 4
    have l6 := at_lt s 4 6
    simp only [show (256 : Nat) ^ (4 - 0) = 4294967296 from rfl, show (256 : Nat) ^ (6 - 4) = 65536 from rfl] at l4 l6
    refine .inr ⟨⟨((at_ s 0 4 / 1048576 % 256 : Nat) : Int), ((at_ s 0 4 % 1048576 : Nat) : Int), bt s 7, pr, s.extract 8 24, s.extract 24 40, l'⟩, (body6 s).extract q (body6 s).size, fun T t => by rw [take6_ok t hok, hc]; rfl, ?_, ?_, ?_, hok⟩
    · refine (right_iff _).mpr ⟨e2, ⟨by simp only; omega, by simp only; omega⟩, ⟨by simp only; omega, by simp only; omega⟩, ⟨by simp only; omega, by simp only; omega⟩, ⟨by simp only; omega, by simp only; omega⟩, e6, ?_, ?_, e8⟩
      · show (s.extract 8 24).size = 16
        rw [ByteArray.size_extract]; omega
      · show (s.extract 24 40).size = 16
        rw [ByteArray.size_extract]; omega
    · unfold fits
      simp only
      omega
    · unfold put6 word
      simp only
      have w1 : (1610612736 + ((at_ s 0 4 / 1048576 % 256 : Nat) : Int) * 1048576 + ((at_ s 0 4 % 1048576 : Nat) : Int)).toNat = at_ s 0 4 := by omega
      have w2 : (encC pr l').length + ((body6 s).extract q (body6 s).size).size = at_ s 4 6 := by omega
      have w3 := enc_at s 0 4 (by omega)
      have w4 := enc_at s 4 2 (by omega)
      have w6 := one_bt s 6 (by omega)
      have w7 := one_bt s 7 (by omega)
      have k6 : ((6 : Nat) : Int) = 6 := rfl
      have k7 : ((7 : Nat) : Int) = 7 := rfl
      rw [k6] at w6
      rw [k7] at w7
      rw [w1, w2, ← e3, w6, w7]
      unfold two
      rw [Int.toNat_natCast]
      rw [show enc (at_ s 0 4) 4 = _ from w3, show enc (at_ s 4 6) 2 = _ from w4, extract_list, extract_list, extract_list, List.take_of_length_le (i := (body6 s).size - q) (by rw [List.length_drop, len]; omega), ← e5]
      unfold body6
      rw [extract_list, show 40 + at_ s 4 6 - 40 = at_ s 4 6 by omega]
      generalize s.data.toList = L
      rw [List.drop_zero]
      simp only [Nat.reduceSub]
      rw [show 40 + at_ s 4 6 = 4 + (2 + (1 + (1 + (16 + (16 + at_ s 4 6))))) by omega]
      simp only [List.take_add, List.drop_drop, List.append_assoc, Nat.reduceAdd]
def piece1 (p : Ex) : Bool := decide (p.1 = 44 ∧ 2 < p.2.size ∧ 8 ≤ 256 * bt p.2 1 + bt p.2 2)
theorem piece1_eq (p : Ex) : ipsix_Piece_1.f (t1 p).f0 (t1 p).f1 = some (piece1 p) := by
  unfold ipsix_Piece_1.f piece1
  rw [show (t1 p).f0 = p.1 from rfl, show (t1 p).f1 = p.2 from rfl]
  have b1 := bt_range p.2 1
  have b2 := bt_range p.2 2
  by_cases c1 : p.1 = 44
  case neg => rw [if_neg c1, decide_eq_false (fun h => c1 h.1)]
  by_cases c2 : 2 < p.2.size
  case neg => rw [if_pos c1, if_neg (by omega), decide_eq_false (fun h => c2 h.2.1)]
  rw [if_pos c1, if_pos (by omega), if_pos (by omega), if_pos (by omega), w64 (n := bt p.2 1) (by omega) (by omega), w64 (n := bt p.2 2) (by omega) (by omega), w64 (n := bt p.2 1 * 256) (by omega) (by omega), w64 (by omega) (by omega)]
  by_cases c3 : 8 ≤ 256 * bt p.2 1 + bt p.2 2
  · rw [decide_eq_true (by omega), decide_eq_true ⟨c1, c2, c3⟩]
  · rw [decide_eq_false (by omega), decide_eq_false (fun h => c3 h.2.2)]
def pieceB : List Ex → Bool
  | [] => false
  | p :: r => piece1 p || pieceB r
theorem index_loop (l : List Ex) (hl : l.length < 5864062014805) (r : List Ex) : ∀ (k i : Nat), l.drop i = r → i ≤ l.length → r.length < k →
    ∃ n : Int, slices_IndexFunc_of_56_58.l0 k (l.map t1) ((l.map t1).length : Int) (i : Int) = some n ∧ decide (n ≥ 0) = pieceB r := by
  induction r with
  | nil =>
    intro k i hd hi hk
    obtain ⟨k, rfl⟩ : ∃ m, k = m + 1 := ⟨k - 1, by omega⟩
    have := congrArg List.length hd
    rw [List.length_drop, List.length_nil] at this
    refine ⟨-1, ?_, rfl⟩
    simp only [slices_IndexFunc_of_56_58.l0]
    rw [if_neg (by rw [List.length_map]; omega)]
  | cons p r ih =>
    intro k i hd hi hk
    rw [List.length_cons] at hk
    obtain ⟨k, rfl⟩ : ∃ m, k = m + 1 := ⟨k - 1, by omega⟩
    obtain ⟨h1, h2, h3⟩ := drop_len hd
    obtain ⟨n, g1, g2⟩ := ih k (i + 1) h3 (by omega) (by omega)
    simp only [slices_IndexFunc_of_56_58.l0]
    have e1 : wrap64 ((i : Int) + 1) = ((i + 1 : Nat) : Int) := by rw [w64 (by omega) (by omega)]; omega
    rw [if_pos (by rw [List.length_map]; omega), if_pos (by omega), if_pos (by rw [List.length_map]; omega), rd1 hd, piece1_eq, Option.bind_some, e1]
    cases hp : piece1 p
    · rw [if_neg (by decide)]
      refine ⟨n, g1, ?_⟩
      rw [g2, pieceB, hp]; rfl
    · rw [if_pos rfl]
      refine ⟨i, rfl, ?_⟩
      rw [pieceB, hp, decide_eq_true (by omega)]; rfl
theorem piece_eq (l : List Ex) (c la ho pr : Int) (src dst : ByteArray) (hl : l.length < 5864062014805) (k : Nat) (hk : l.length < k) : ipsix_Piece.f k c la ho pr src dst (l.map t1) = some (pieceB l) := by
  obtain ⟨n, g1, g2⟩ := index_loop l hl l k 0 rfl (by omega) hk
  unfold ipsix_Piece.f slices_ContainsFunc_of_56_55.f slices_IndexFunc_of_56_58.f
  rw [show ((0 : Nat) : Int) = 0 from rfl] at g1
  rw [g1, Option.bind_some, Option.bind_some, g2]
end Go.Proofs.Ytfdhifigndmgaaa.L07
namespace Go.Proofs.Ytfdhifigndmgaaa.L07
open Go Go.RowKit Go.Proofs.Ytfdhifigndmgaaa.Q Go.Proofs.Ytfdhifigndmgaaa.Base Go.Proofs.Ytfdhifigndmgaaa.L04 Go.Proofs.Ytfdhifigndmgaaa.LAt Go.Proofs.YtfdhifigndmgaaaW.PrintWords Go.Proofs.YtfdhifigndmgaaaW.PrintMore
set_option linter.unusedVariables false
set_option linter.unusedSimpArgs false
theorem refext_eq (n : Int) : rillmeterref07_extension.f n = some (isExt n) := ext_eq n
theorem refj_true (k : Nat) (b src dst : ByteArray) (c la ho kind : Int) (l : List Rx) : rillmeterref07_Take.j1 (k + 1) b true c la ho kind src dst l = some (0, 0, 0, 0, mkB [], mkB [], [], mkB [], 15) := by
  simp only [rillmeterref07_Take.j1, if_true]; rfl
theorem reftake_loop (b src dst : ByteArray) (c la ho : Int) (f : Nat) : ∀ (p : Nat) (kind : Int) (l : List Ex) (k : Nat), p ≤ b.size → l.length + f = 9 → l.length ≤ 8 → 2 * f + 2 < k →
    rillmeterref07_Take.l0 k (b.extract p b.size) c la ho kind src dst (l.map t2) = some (outH t2 b c la ho src dst (cs b f p kind l)) := by
  induction f with
  | zero => intro p kind l k hp h1 h2 hk; omega
  | succ f ih =>
    intro p kind l k hp h1 h2 hk
    obtain ⟨k, rfl⟩ : ∃ m, k = m + 2 := ⟨k - 2, by omega⟩
    have hz : (b.extract p b.size).size = b.size - p := by rw [ByteArray.size_extract]; omega
    rw [show k + 2 = (k + 1) + 1 from rfl]
    simp only [rillmeterref07_Take.l0]
    unfold cs
    rw [refext_eq, Option.bind_some, List.length_map]
    by_cases hx : isExt kind = true
    case neg => rw [if_neg hx, if_neg hx]; rfl
    rw [if_pos hx, if_pos hx]
    by_cases c1 : b.size < p + 8
    · rw [if_pos (by omega), refj_true]
      unfold extS
      rw [if_pos c1]; rfl
    rw [if_neg (by omega)]
    have main : ¬ (l.length = 8 ∨ (kind = 0 ∧ l.length > 0)) → rillmeterref07_Take.j1 (k + 1) (b.extract p b.size) false c la ho kind src dst (l.map t2) = some (outH t2 b c la ho src dst (match extS b p kind with
      | none => .error 15
      | some (d, n, q) => if l.length = 8 ∨ (kind = 0 ∧ l.length > 0) then .error 15 else cs b f q n (l ++ [(kind, d)]))) := by
      intro hn
      simp only [rillmeterref07_Take.j1]
      rw [if_neg (by decide), hz, List.length_map]
      have b0 : bt (b.extract p b.size) 0 = bt b (p : Int) := bt_ext b p 0 (by omega)
      have b1 : bt (b.extract p b.size) 1 = bt b ((p + 1 : Nat) : Int) := bt_ext b p 1 (by omega)
      have r0 := bt_range b (p : Int)
      have r1 := bt_range b ((p + 1 : Nat) : Int)
      rw [b0, b1, w64 (n := bt b (p : Int)) (by omega) (by omega)]
      have e : wrap64 (8 * wrap64 (wrap64 (bt b ((p + 1 : Nat) : Int)) + 1)) = ((xl b p : Nat) : Int) := by
        rw [w64 (n := bt b ((p + 1 : Nat) : Int)) (by omega) (by omega), w64 (n := bt b ((p + 1 : Nat) : Int) + 1) (by omega) (by omega), w64 (by omega) (by omega)]
        unfold xl; omega
      have hxl : 8 ≤ xl b p := by unfold xl; omega
      rw [e]
      unfold extS
      rw [if_neg c1]
      by_cases c2 : kind = 44
      · rw [if_pos c2, if_pos c2, if_pos (by decide), if_pos (by omega), if_pos (by omega), if_pos (by omega), ext2 b p 1 8 (by omega), ext2e b p 8 hp]
        simp only [if_neg hn]
        have := ih (p + 8) (bt b (p : Int)) (l ++ [(kind, b.extract (p + 1) (p + 8))]) k (by omega) (by simp; omega) (by simp; omega) (by omega)
        rw [List.map_append] at this
        exact this
      rw [if_neg c2, if_neg c2, if_pos (by omega)]
      by_cases c3 : b.size < p + xl b p
      · rw [if_pos (by omega), if_pos c3]; rfl
      rw [if_neg (by omega), if_neg c3, if_pos (by omega), if_pos (by omega), if_pos (by omega), if_pos (by omega), if_pos (by omega), Int.toNat_natCast, ext2 b p 2 _ (by omega), ext2e b p _ hp]
      simp only [if_neg hn]
      have := ih (p + xl b p) (bt b (p : Int)) (l ++ [(kind, b.extract (p + 2) (p + xl b p))]) k (by omega) (by simp; omega) (by simp; omega) (by omega)
      rw [List.map_append] at this
      exact this
    have errs : (l.length = 8 ∨ (kind = 0 ∧ l.length > 0)) → (match extS b p kind with
      | none => Except.error 15
      | some (d, n, q) => if l.length = 8 ∨ (kind = 0 ∧ l.length > 0) then Except.error 15 else cs b f q n (l ++ [(kind, d)])) = Except.error 15 := by
      intro hy
      cases extS b p kind with
      | none => rfl
      | some v => simp only [if_pos hy]
    by_cases c8 : l.length = 8
    · rw [if_pos (by omega), refj_true]; exact (congrArg (fun z => some (outH t2 b c la ho src dst z)) (errs (.inl c8))).symm
    rw [if_neg (by omega)]
    by_cases c0 : kind = 0
    · rw [if_pos c0]
      by_cases cl : (l.length : Int) > 0
      · rw [decide_eq_true cl, refj_true]; exact (congrArg (fun z => some (outH t2 b c la ho src dst z)) (errs (.inr ⟨c0, by omega⟩))).symm
      · rw [decide_eq_false cl]; exact main (by omega)
    · rw [if_neg c0]; exact main (by omega)
theorem reftake6_eq (s : ByteArray) (hs : s.size ≤ 140737488351232) (k : Nat) (hk : 21 ≤ k) : rillmeterref07_Take.f k s = some (take6 t2 s) := by
  unfold rillmeterref07_Take.f take6
  by_cases c1 : s.size < 40
  · rw [if_pos (by omega), if_pos c1]; rfl
  have b0 := bt_range s 0
  have b6 := bt_range s 6
  have b7 := bt_range s 7
  have l4 := at_lt s 0 4
  have l6 := at_lt s 4 6
  have ht := at_top s (by omega)
  simp only [show (256 : Nat) ^ (4 - 0) = 4294967296 from rfl, show (256 : Nat) ^ (6 - 4) = 65536 from rfl] at l4 l6
  rw [if_neg (by omega), if_neg c1, if_pos (by omega), w64 (n := bt s 0) (by omega) (by omega), Int.tdiv_eq_ediv_of_nonneg (by omega), w64 (by omega) (by omega)]
  by_cases c2 : at_ s 0 4 / 268435456 = 6
  case neg => rw [if_neg (by omega), if_pos c2]; rfl
  rw [if_neg (show ¬ (at_ s 0 4 / 268435456 ≠ 6) by omega), if_pos (by omega), if_pos (by decide), if_pos (by omega), refnum_eq s 4 6 (by omega) k (by omega), Option.bind_some, w64 (n := 40 + ((at_ s 4 6 : Nat) : Int)) (by omega) (by omega)]
  by_cases c3 : s.size < 40 + at_ s 4 6
  · rw [if_pos (by omega), if_pos c3]; rfl
  rw [if_neg (by omega), if_neg c3, if_pos (by decide), if_pos (by omega), refnum_eq s 0 4 (by omega) k (by omega), Option.bind_some, if_pos (by omega), if_pos (by omega), if_pos (by decide), if_pos (by omega), if_pos (by decide), if_pos (by omega), if_pos (by omega), if_pos (by omega), w64 (n := bt s 7) (by omega) (by omega), w64 (n := bt s 6) (by omega) (by omega)]
  have e1 : ((40 + ((at_ s 4 6 : Nat) : Int) : Int)).toNat = 40 + at_ s 4 6 := by omega
  have e2 : Int.tmod (wrap64 (Int.tdiv ((at_ s 0 4 : Nat) : Int) 1048576)) 256 = ((at_ s 0 4 / 1048576 % 256 : Nat) : Int) := by
    rw [Int.tdiv_eq_ediv_of_nonneg (by omega), w64 (by omega) (by omega), Int.tmod_eq_emod_of_nonneg (by omega)]; omega
  have e3 : Int.tmod ((at_ s 0 4 : Nat) : Int) 1048576 = ((at_ s 0 4 % 1048576 : Nat) : Int) := by
    rw [Int.tmod_eq_emod_of_nonneg (by omega)]; omega
  rw [e1, e2, e3]
  have := reftake_loop (body6 s) (s.extract 8 24) (s.extract 24 40) ((at_ s 0 4 / 1048576 % 256 : Nat) : Int) ((at_ s 0 4 % 1048576 : Nat) : Int) (bt s 7) 9 0 (bt s 6) [] k (by omega) rfl (by simp) (by omega)
  rw [ext_all] at this
  exact this
theorem refpiece_loop (l : List Ex) (c la ho pr : Int) (src dst : ByteArray) (hl : l.length < 5864062014805) (r : List Ex) : ∀ (k i : Nat), l.drop i = r → i ≤ l.length → r.length < k →
    rillmeterref07_Piece.l0 k (i : Int) c la ho pr src dst (l.map t2) = some (pieceB r) := by
  induction r with
  | nil =>
    intro k i hd hi hk
    obtain ⟨k, rfl⟩ : ∃ m, k = m + 1 := ⟨k - 1, by omega⟩
    have := congrArg List.length hd
    rw [List.length_drop, List.length_nil] at this
    simp only [rillmeterref07_Piece.l0]
    rw [if_neg (by rw [List.length_map]; omega)]; rfl
  | cons p r ih =>
    intro k i hd hi hk
    rw [List.length_cons] at hk
    obtain ⟨k, rfl⟩ : ∃ m, k = m + 1 := ⟨k - 1, by omega⟩
    obtain ⟨h1, h2, h3⟩ := drop_len hd
    have hrec := ih k (i + 1) h3 (by omega) (by omega)
    have e1 : wrap64 ((i : Int) + 1) = ((i + 1 : Nat) : Int) := by rw [w64 (by omega) (by omega)]; omega
    simp only [rillmeterref07_Piece.l0]
    rw [if_pos (by rw [List.length_map]; omega), if_pos (by omega), rd2 hd, e1, hrec, show (t2 p).f0 = p.1 from rfl, show (t2 p).f1 = p.2 from rfl, pieceB]
    have b1 := bt_range p.2 1
    have b2 := bt_range p.2 2
    unfold piece1
    by_cases c1 : p.1 = 44
    case neg => rw [if_neg c1, decide_eq_false (fun h => c1 h.1)]; rfl
    by_cases c2 : 2 < p.2.size
    case neg => rw [if_pos c1, if_neg (by omega), decide_eq_false (fun h => c2 h.2.1)]; rfl
    rw [if_pos c1, if_pos (by omega), if_pos (by omega)]
    by_cases c3 : bt p.2 1 > 0
    · rw [if_pos c3, decide_eq_true ⟨c1, c2, by omega⟩]; rfl
    rw [if_neg c3, if_pos (by omega)]
    by_cases c4 : bt p.2 2 > 7
    · rw [if_pos c4, decide_eq_true ⟨c1, c2, by omega⟩]; rfl
    · rw [if_neg c4, decide_eq_false (fun h => by omega)]; rfl
theorem refpiece_eq (l : List Ex) (c la ho pr : Int) (src dst : ByteArray) (hl : l.length < 5864062014805) (k : Nat) (hk : l.length < k) : rillmeterref07_Piece.f k c la ho pr src dst (l.map t2) = some (pieceB l) := by
  unfold rillmeterref07_Piece.f
  exact refpiece_loop l c la ho pr src dst hl l k 0 rfl (by omega) hk
end Go.Proofs.Ytfdhifigndmgaaa.L07
namespace Go.Proofs.Ytfdhifigndmgaaa.L08
open Go Go.RowKit Go.Proofs.Ytfdhifigndmgaaa.Q Go.Proofs.Ytfdhifigndmgaaa.Base Go.Proofs.Ytfdhifigndmgaaa.L04 Go.Proofs.YtfdhifigndmgaaaW.PrintWords Go.Proofs.YtfdhifigndmgaaaW.PrintMore
set_option linter.unusedVariables false
set_option linter.unusedSimpArgs false
/-- The number of the bytes from i to j. -/
def at_ (s : ByteArray) (i j : Nat) : Nat := num ((s.data.toList.drop i).take (j - i))
theorem extract_list (s : ByteArray) (a b : Nat) : (s.extract a b).data.toList = (s.data.toList.drop a).take (b - a) := by
  have := mkB_extract s.data.toList a b
  rw [mkB_eta] at this
  rw [this, mkB_data]
theorem ptake_eq (s : ByteArray) (i : Nat) (hi : i + 2 ≤ s.size) (k : Nat) (hk : 10 ≤ k) : port_take.f k s (i : Int) = some ((at_ s i (i + 2) : Nat) : Int) := by
  unfold port_take.f
  rw [if_pos (by omega), if_pos (by omega), take_eq _ _ _ hk, Option.bind_some]
  have hz : (s.extract (i : Int).toNat s.size).size = s.size - i := by rw [ByteArray.size_extract]; omega
  unfold takeS
  rw [if_neg (by omega), if_neg (by omega)]
  simp only [extract_list, Int.toNat_natCast]
  congr 2
  unfold at_
  rw [List.take_take]
  have e : min ((2 : Int).toNat) (s.size - i) = i + 2 - i := by rw [show (2 : Int).toNat = 2 from rfl]; omega
  rw [e]
theorem refnum_eq (s : ByteArray) (i j : Nat) (h : j ≤ i + 7) (k : Nat) (hk : 10 ≤ k) : rillmeterref04_Number.f k (s.extract i j) = some ((at_ s i j : Nat) : Int) := by
  rw [number_eq _ (by rw [ByteArray.size_extract]; omega) _ hk, extract_list]; rfl
def bad : Int × Int × ByteArray × Int := (0, 0, mkB [], 16)
/-- Both ports, the body, the error's number. -/
def portS (p : Int) (s : ByteArray) : Int × Int × ByteArray × Int :=
  if p = 6 then
    (if s.size < 20 then bad else if 4 * (bt s 12 / 16) < 20 ∨ (s.size : Int) < 4 * (bt s 12 / 16) then bad
     else ((at_ s 0 2 : Nat), (at_ s 2 4 : Nat), s.extract (4 * (bt s 12 / 16)).toNat s.size, 0))
  else if p = 17 then
    (if s.size < 8 then bad else if at_ s 4 6 < 8 ∨ s.size < at_ s 4 6 then bad
     else ((at_ s 0 2 : Nat), (at_ s 2 4 : Nat), s.extract 8 (at_ s 4 6), 0))
  else (0, 0, mkB [], 8)
theorem take_end (s : ByteArray) (hs : s.size ≤ 140737488351232) (a e : Int) (ha : 0 ≤ a) (hae : a ≤ e) (he : e ≤ s.size) (h4 : 4 ≤ s.size) (k : Nat) (hk : 20 ≤ k) :
    port_Take.j1 k s a e false = some (((at_ s 0 2 : Nat) : Int), ((at_ s 2 4 : Nat) : Int), s.extract a.toNat e.toNat, (0 : Int)) := by
  obtain ⟨k, rfl⟩ : ∃ m, k = m + 1 := ⟨k - 1, by omega⟩
  simp only [port_Take.j1, Bool.false_eq_true, if_false]
  have e0 := ptake_eq s 0 (by omega) k (by omega)
  have e2 := ptake_eq s 2 (by omega) k (by omega)
  rw [show ((0 : Nat) : Int) = 0 from rfl] at e0
  rw [show ((2 : Nat) : Int) = 2 from rfl] at e2
  rw [e0, Option.bind_some, e2, Option.bind_some, if_pos ha, if_pos hae, if_pos he]
theorem take_bad (s : ByteArray) (a e : Int) (k : Nat) (hk : 1 ≤ k) : port_Take.j1 k s a e true = some bad := by
  obtain ⟨k, rfl⟩ : ∃ m, k = m + 1 := ⟨k - 1, by omega⟩
  simp only [port_Take.j1, if_true]; rfl
theorem port_eq (p : Int) (s : ByteArray) (hs : s.size ≤ 140737488351232) (k : Nat) (hk : 30 ≤ k) : port_Take.f k p s = some (portS p s) := by
  have hb := bt_range s 12
  obtain ⟨k, rfl⟩ : ∃ m, k = m + 1 := ⟨k - 1, by omega⟩
  unfold port_Take.f portS
  by_cases h6 : p = 6
  · rw [if_pos h6, if_pos h6]
    by_cases h12 : (s.size : Int) > 12
    · rw [if_pos h12, if_pos (by omega)]
      have ew : wrap64 (4 * wrap64 (bt s 12 / 16)) = 4 * (bt s 12 / 16) := by
        rw [w64 (n := bt s 12 / 16) (by omega) (by omega), w64 (by omega) (by omega)]
      rw [ew]
      generalize hq : 4 * (bt s 12 / 16) = q
      have hq0 : 0 ≤ q ∧ q ≤ 60 := by omega
      simp only [port_Take.j0]
      by_cases h20 : s.size < 20
      · rw [if_pos (by omega), if_pos h20, take_bad _ _ _ _ (by omega)]
      · rw [if_neg (by omega), if_neg h20]
        by_cases hq20 : q < 20
        · rw [if_pos hq20, if_pos (.inl hq20), take_bad _ _ _ _ (by omega)]
        · rw [if_neg hq20]
          by_cases hqs : q > (s.size : Int)
          · rw [if_pos hqs, if_pos (.inr (by omega)), take_bad _ _ _ _ (by omega)]
          · rw [if_neg hqs, if_neg (by omega), decide_eq_false (by omega), take_end s hs _ _ (by omega) (by omega) (by omega) (by omega) _ (by omega)]
            rfl
    · rw [if_neg h12, if_pos (by omega)]
      simp only [port_Take.j0]
      rw [if_pos (by omega), take_bad _ _ _ _ (by omega)]
  · rw [if_neg h6, if_neg h6]
    by_cases h17 : p = 17
    · rw [if_pos h17, if_pos h17]
      by_cases h5 : (s.size : Int) > 5
      · have e4 := ptake_eq s 4 (by omega) (k + 1) (by omega)
        rw [show ((4 : Nat) : Int) = 4 from rfl] at e4
        rw [if_pos h5, e4, Option.bind_some]
        generalize at_ s 4 (4 + 2) = q
        simp only [port_Take.j0]
        by_cases h8 : s.size < 8
        · rw [if_pos (by omega), if_pos h8, take_bad _ _ _ _ (by omega)]
        · rw [if_neg (by omega), if_neg (by omega), if_neg h8]
          by_cases hq8 : q < 8
          · rw [if_pos (by omega), if_pos (.inl hq8), take_bad _ _ _ _ (by omega)]
          · rw [if_neg (by omega)]
            by_cases hqs : s.size < q
            · rw [decide_eq_true (by omega), if_pos (.inr hqs), take_bad _ _ _ _ (by omega)]
            · rw [decide_eq_false (by omega), if_neg (by omega), take_end s hs _ _ (by omega) (by omega) (by omega) (by omega) _ (by omega)]
              rfl
      · rw [if_neg h5, if_pos (by omega)]
        simp only [port_Take.j0]
        rw [if_pos (by omega), take_bad _ _ _ _ (by omega)]
    · rw [if_neg h17, if_neg h17]; rfl
theorem refport_eq (p : Int) (s : ByteArray) (hs : s.size ≤ 140737488351232) (k : Nat) (hk : 30 ≤ k) : rillmeterref08_Take.f k p s = some (portS p s) := by
  have hb := bt_range s 12
  obtain ⟨k, rfl⟩ : ∃ m, k = m + 2 := ⟨k - 2, by omega⟩
  have key : ∀ b : Bool, b = decide (p ≠ 6 ∧ p ≠ 17) → rillmeterref08_Take.j0 (k + 2) p s b = some (portS p s) := by
    intro b hbb
    unfold portS
    rw [show k + 2 = (k + 1) + 1 from rfl]
    simp only [rillmeterref08_Take.j0]
    by_cases h6 : p = 6
    · subst h6
      rw [show b = false by rw [hbb]; rfl]
      rw [if_neg (by decide), if_neg (by decide), if_pos rfl]
      by_cases h20 : s.size < 20
      · rw [if_pos (by omega), if_pos h20]; rfl
      · rw [if_neg (by omega), if_neg h20, if_pos (by omega)]
        have ew : wrap64 (wrap64 (Int.tdiv (wrap64 (bt s 12)) 16) * 4) = 4 * (bt s 12 / 16) := by
          rw [w64 (n := bt s 12) (by omega) (by omega), Int.tdiv_eq_ediv_of_nonneg (by omega), w64 (n := bt s 12 / 16) (by omega) (by omega), w64 (by omega) (by omega)]
          omega
        rw [ew]
        generalize hq : 4 * (bt s 12 / 16) = q
        have hq0 : 0 ≤ q ∧ q ≤ 60 := by omega
        have bad2 : rillmeterref08_Take.j2 (k + 1) s q true = some bad := by
          simp only [rillmeterref08_Take.j2, if_true]; rfl
        by_cases hq20 : q < 20
        · rw [if_pos hq20, if_pos (.inl hq20), bad2]
        · rw [if_neg hq20]
          by_cases hqs : q > (s.size : Int)
          · rw [decide_eq_true hqs, if_pos (.inr (by omega)), bad2]
          · rw [decide_eq_false hqs, if_neg (by omega)]
            simp only [rillmeterref08_Take.j2, Bool.false_eq_true, if_false]
            rw [if_pos (by decide), if_pos (by omega), refnum_eq s 0 2 (by omega) _ (by omega), Option.bind_some, if_pos (by decide), if_pos (by omega), refnum_eq s 2 4 (by omega) _ (by omega), Option.bind_some, if_pos (by omega), if_pos (by omega)]
    · by_cases h17 : p = 17
      · subst h17
        rw [show b = false by rw [hbb]; rfl]
        rw [if_neg (by decide), if_pos rfl, if_neg h6, if_pos rfl]
        by_cases h8 : s.size < 8
        · rw [if_pos (by omega), if_pos h8]; rfl
        · rw [if_neg (by omega), if_neg h8, if_pos (by decide), if_pos (by omega), refnum_eq s 4 6 (by omega) _ (by omega), Option.bind_some]
          generalize at_ s 4 6 = q
          have bad1 : rillmeterref08_Take.j1 (k + 1) s (q : Int) true = some bad := by
            simp only [rillmeterref08_Take.j1, if_true]; rfl
          by_cases hq8 : q < 8
          · rw [if_pos (by omega), if_pos (.inl hq8), bad1]
          · rw [if_neg (by omega)]
            by_cases hqs : s.size < q
            · rw [decide_eq_true (by omega), if_pos (.inr hqs), bad1]
            · rw [decide_eq_false (by omega), if_neg (by omega)]
              simp only [rillmeterref08_Take.j1, Bool.false_eq_true, if_false]
              rw [if_pos (by decide), if_pos (by omega), refnum_eq s 0 2 (by omega) _ (by omega), Option.bind_some, if_pos (by decide), if_pos (by omega), refnum_eq s 2 4 (by omega) _ (by omega), Option.bind_some, if_pos (by omega), if_pos (by omega)]
              rfl
      · rw [show b = true by rw [hbb]; simp [h6, h17], if_neg h6, if_pos rfl, if_neg h17]; rfl
  unfold rillmeterref08_Take.f
  by_cases h6 : p = 6
  · rw [if_pos h6]; exact key _ (by simp [h6])
  · rw [if_neg h6]; refine key _ ?_
    by_cases h17 : p = 17
    · subst h17; rfl
    · simp [h6, h17]
end Go.Proofs.Ytfdhifigndmgaaa.L08
namespace Go.Proofs.Ytfdhifigndmgaaa.L05
open Go Go.RowKit Go.Proofs.Ytfdhifigndmgaaa.Q Go.Proofs.Ytfdhifigndmgaaa.Base Go.Proofs.Ytfdhifigndmgaaa.L04 Go.Proofs.Ytfdhifigndmgaaa.LAt Go.Proofs.YtfdhifigndmgaaaW.PrintWords Go.Proofs.YtfdhifigndmgaaaW.PrintMore
set_option linter.unusedVariables false
set_option linter.unusedSimpArgs false
abbrev Tg := S81
abbrev Rg := S95
def isTag (n : Int) : Bool := n == 33024 || n == 34984
theorem tag_eq (n : Int) : ether_tag.f n = some (isTag n) := by
  unfold ether_tag.f isTag
  by_cases h : n = 33024
  · rw [if_pos h]; simp [h]
  · rw [if_neg h, beq_eq_false_iff_ne.mpr h]; rfl
theorem reftag_eq (n : Int) : rillmeterref05_tag.f n = some (isTag n) := by
  unfold rillmeterref05_tag.f isTag
  by_cases h : n = 33024
  · rw [if_pos h]; simp [h]
  · rw [if_neg h, beq_eq_false_iff_ne.mpr h]; rfl
abbrev Pr := Int × Int
def t1 (p : Pr) : Tg := ⟨p.1, p.2⟩
def t2 (p : Pr) : Rg := ⟨p.1, p.2⟩
def tg (s : ByteArray) (p : Nat) : Pr := (((at_ s p (p + 2) : Nat) : Int), ((at_ s (p + 2) (p + 4) : Nat) : Int))
/-- From a place on, with the tags so far: the tags, the type and where the body begins; or the error's number. -/
def tk (s : ByteArray) : Nat → Nat → List Pr → Except Int (List Pr × Int × Nat)
  | 0, _, _ => .error 9
  | f + 1, p, tags =>
    if p + 2 ≤ s.size then
      (if isTag (at_ s p (p + 2) : Nat) = true then
        (if tags.length = 2 then .error 9 else if p + 4 ≤ s.size then tk s f (p + 4) (tags ++ [tg s p]) else .error 2)
       else .ok (tags, (at_ s p (p + 2) : Nat), p + 2))
    else .error 2
theorem take_short (s : ByteArray) (p : Nat) (hp : p ≤ s.size) (h : ¬ p + 2 ≤ s.size) (k : Nat) (hk : 10 ≤ k) : octet_Take.f k (s.extract p s.size) 2 = some (0, mkB [], 2) := by
  rw [take_eq _ _ _ hk]
  unfold takeS
  have hz : (s.extract p s.size).size = s.size - p := by rw [ByteArray.size_extract]; omega
  rw [if_neg (by omega), if_pos (by omega)]
abbrev Out (T : Type) := ByteArray × ByteArray × List T × Int × ByteArray × Int
def out {T : Type} (t : Pr → T) (s d r : ByteArray) : Except Int (List Pr × Int × Nat) → Out T
  | .error e => (mkB [], mkB [], [], 0, mkB [], e)
  | .ok (tags, n, p) => (d, r, tags.map t, n, s.extract p s.size, 0)
theorem take_loop (s d r : ByteArray) (f : Nat) : ∀ (p : Nat) (tags : List Pr) (y : Int) (k : Nat), p ≤ s.size → tags.length + f = 3 → tags.length ≤ 2 → 20 + f ≤ k →
    ether_Take.l0 k (s.extract p s.size) d r (tags.map t1) y = some (out t1 s d r (tk s f p tags)) := by
  induction f with
  | zero => intro p tags y k hp ht h2 hk; omega
  | succ f ih =>
    intro p tags y k hp ht h22 hk
    obtain ⟨k, rfl⟩ : ∃ m, k = m + 1 := ⟨k - 1, by omega⟩
    simp only [ether_Take.l0]
    by_cases h2 : p + 2 ≤ s.size
    · have e := take_at s p 2 (by omega) h2 k (by omega)
      rw [show ((2 : Nat) : Int) = 2 from rfl] at e
      rw [e]
      simp only [Option.bind_some, if_true, tag_eq]
      unfold tk
      rw [if_pos h2]
      by_cases ht1 : isTag (at_ s p (p + 2) : Nat) = true
      · rw [if_pos ht1, if_pos ht1]
        by_cases hl : tags.length = 2
        · rw [if_pos (by rw [List.length_map]; omega), if_pos hl]; rfl
        · rw [if_neg (by rw [List.length_map]; omega), if_neg hl]
          by_cases h4 : p + 4 ≤ s.size
          · have e4 := take_at s (p + 2) 2 (by omega) (by omega) k (by omega)
            rw [show ((2 : Nat) : Int) = 2 from rfl, show p + 2 + 2 = p + 4 from rfl] at e4
            rw [e4]
            simp only [Option.bind_some, if_true]
            rw [if_pos (by rw [List.length_map]; omega), if_pos h4]
            have := ih (p + 4) (tags ++ [tg s p]) ((at_ s p (p + 2) : Nat) : Int) k h4 (by simp; omega) (by simp; omega) (by omega)
            rw [List.map_append] at this
            exact this
          · rw [take_short s (p + 2) (by omega) (by omega) k (by omega), if_neg h4]
            simp only [Option.bind_some]
            rw [if_neg (by decide)]; rfl
      · rw [if_neg ht1, if_neg ht1]; rfl
    · rw [take_short s p hp h2 k (by omega)]
      simp only [Option.bind_some]
      unfold tk
      rw [if_neg h2, if_neg (by decide)]; rfl
def tk0 (s : ByteArray) : Except Int (List Pr × Int × Nat) := if s.size < 12 then .error 2 else tk s 3 12 []
def res {T : Type} (t : Pr → T) (s : ByteArray) : Out T := out t s (s.extract 0 6) (s.extract 6 12) (tk0 s)
theorem cutS_ok (s : ByteArray) (h : 6 ≤ s.size) : cutS s 6 = (s.extract 0 6, s.extract 6 s.size, 0) := by
  unfold cutS; rw [if_neg (by omega), if_neg (by omega)]; rfl
theorem cutS_no (s : ByteArray) (h : ¬ 6 ≤ s.size) : cutS s 6 = (mkB [], mkB [], 2) := by
  unfold cutS; rw [if_neg (by omega), if_pos (by omega)]
theorem ethtake_eq (s : ByteArray) (k : Nat) (hk : 30 ≤ k) : ether_Take.f k s = some (res t1 s) := by
  unfold ether_Take.f res tk0
  rw [cut_eq, Option.bind_some]
  by_cases c1 : 6 ≤ s.size
  · rw [cutS_ok s c1]
    simp only [if_true, cut_eq, Option.bind_some]
    have hz : (s.extract 6 s.size).size = s.size - 6 := by rw [ByteArray.size_extract]; omega
    by_cases c2 : 12 ≤ s.size
    · rw [cutS_ok _ (by omega)]
      simp only [if_true]
      have x1 : (s.extract 6 s.size).extract 0 6 = s.extract 6 12 := by rw [ByteArray.extract_extract]; congr 1; omega
      have x2 : (s.extract 6 s.size).extract 6 (s.extract 6 s.size).size = s.extract 12 s.size := by rw [hz, ByteArray.extract_extract]; congr 1; omega
      rw [x1, x2, if_neg (by omega)]
      exact take_loop s (s.extract 0 6) (s.extract 6 12) 3 12 [] 0 k c2 rfl (by decide) (by omega)
    · rw [cutS_no _ (by omega)]
      dsimp only
      rw [if_neg (show ¬ (2 : Int) = 0 by decide), if_pos (by omega)]; rfl
  · rw [cutS_no _ c1]
    dsimp only
    rw [if_neg (show ¬ (2 : Int) = 0 by decide), if_pos (by omega)]; rfl
theorem reftake_loop (s d r : ByteArray) (hs : s.size ≤ 140737488351232) (f : Nat) : ∀ (p : Nat) (tags : List Pr) (k : Nat), p ≤ s.size → tags.length + f = 3 → tags.length ≤ 2 → 2 + f ≤ k →
    rillmeterref05_Take.l0 k s (p : Int) d r (tags.map t2) 0 = some (out t2 s d r (tk s f p tags)) := by
  induction f with
  | zero => intro p tags k hp ht h2 hk; omega
  | succ f ih =>
    intro p tags k hp ht h22 hk
    obtain ⟨k, rfl⟩ : ∃ m, k = m + 1 := ⟨k - 1, by omega⟩
    simp only [rillmeterref05_Take.l0]
    have w1 : wrap64 ((p : Int) + 1) = ((p + 1 : Nat) : Int) := by rw [w64 (by omega) (by omega)]; omega
    have w2 : wrap64 ((p : Int) + 2) = ((p + 2 : Nat) : Int) := by rw [w64 (by omega) (by omega)]; omega
    have w3 : wrap64 (((p + 2 : Nat) : Int) + 1) = ((p + 3 : Nat) : Int) := by rw [w64 (by omega) (by omega)]; omega
    have w4 : wrap64 (((p + 2 : Nat) : Int) + 2) = ((p + 4 : Nat) : Int) := by rw [w64 (by omega) (by omega)]; omega
    have num2 : ∀ q : Nat, q + 1 < s.size → wrap64 (wrap64 (256 * wrap64 (bt s (q : Int))) + wrap64 (bt s ((q + 1 : Nat) : Int))) = ((at_ s q (q + 2) : Nat) : Int) := by
      intro q hq
      have b1 := bt_range s (q : Int)
      have b2 := bt_range s ((q + 1 : Nat) : Int)
      rw [at_two s q hq, w64 (n := bt s (q : Int)) (by omega) (by omega), w64 (n := bt s ((q + 1 : Nat) : Int)) (by omega) (by omega), w64 (n := 256 * bt s (q : Int)) (by omega) (by omega), w64 (by omega) (by omega)]
    rw [w1, w2, w3, w4]
    unfold tk
    by_cases h2 : p + 2 ≤ s.size
    · rw [if_pos (by omega), if_pos (by omega), if_pos (by omega), if_pos (by omega), num2 p (by omega), reftag_eq, Option.bind_some, if_pos h2]
      by_cases ht1 : isTag (at_ s p (p + 2) : Nat) = true
      · rw [if_pos ht1, if_pos ht1]
        by_cases hl : tags.length = 2
        · rw [if_pos (by rw [List.length_map]; omega), if_pos hl]; rfl
        · rw [if_neg (by rw [List.length_map]; omega), if_neg hl]
          by_cases h4 : p + 4 ≤ s.size
          · rw [if_neg (by omega), if_pos (by omega), if_pos (by omega), if_pos (by omega), if_pos (by omega), if_pos (by rw [List.length_map]; omega), if_pos h4, num2 (p + 2) (by omega)]
            have := ih (p + 4) (tags ++ [tg s p]) k h4 (by simp; omega) (by simp; omega) (by omega)
            rw [List.map_append] at this
            exact this
          · rw [if_pos (by omega), if_neg h4]; rfl
      · rw [if_neg ht1, if_neg ht1, if_pos (by omega), if_pos (by omega)]; rfl
    · rw [if_neg (by omega), if_neg h2]; rfl
theorem tk_end (s : ByteArray) (f p : Nat) (tags : List Pr) (h : ¬ p + 2 ≤ s.size) : tk s (f + 1) p tags = .error 2 := by
  unfold tk; rw [if_neg h]
theorem refethtake_eq (s : ByteArray) (hs : s.size ≤ 140737488351232) (k : Nat) (hk : 10 ≤ k) : rillmeterref05_Take.f k s = some (res t2 s) := by
  unfold rillmeterref05_Take.f res tk0
  by_cases c : s.size < 14
  · rw [if_pos (by omega)]
    by_cases c2 : s.size < 12
    · rw [if_pos c2]; rfl
    · rw [if_neg c2, tk_end _ _ _ _ (by omega)]; rfl
  · rw [if_neg (by omega), if_pos (by decide), if_pos (by omega), if_pos (by decide), if_pos (by omega), if_neg (by omega)]
    exact reftake_loop s _ _ hs 3 12 [] k (by omega) rfl (by decide) (by omega)
end Go.Proofs.Ytfdhifigndmgaaa.L05
namespace Go.Proofs.Ytfdhifigndmgaaa.L05
open Go Go.RowKit Go.Proofs.Ytfdhifigndmgaaa.Q Go.Proofs.Ytfdhifigndmgaaa.Base Go.Proofs.Ytfdhifigndmgaaa.L04 Go.Proofs.Ytfdhifigndmgaaa.LAt Go.Proofs.YtfdhifigndmgaaaW.PrintWords Go.Proofs.YtfdhifigndmgaaaW.PrintMore
set_option linter.unusedVariables false
set_option linter.unusedSimpArgs false
theorem tk_err (s : ByteArray) (f : Nat) : ∀ (p : Nat) (tags : List Pr) (e : Int), tk s f p tags = .error e → e ≠ 0 := by
  induction f with
  | zero => intro p tags e h; cases h; decide
  | succ f ih =>
    intro p tags e h
    unfold tk at h
    split at h
    · split at h
      · split at h
        · cases h; decide
        · split at h
          · exact ih _ _ _ h
          · cases h; decide
      · cases h
    · cases h; decide
theorem tk0_err (s : ByteArray) (e : Int) (h : tk0 s = .error e) : e ≠ 0 := by
  unfold tk0 at h
  split at h
  · cases h; decide
  · exact tk_err _ _ _ _ _ h
theorem res_err {T : Type} (t : Pr → T) (s : ByteArray) (e : Int) (h : tk0 s = .error e) : res t s = (mkB [], mkB [], [], 0, mkB [], e) := by unfold res; rw [h]; rfl
theorem res_ok {T : Type} (t : Pr → T) (s : ByteArray) (ts : List Pr) (n : Int) (q : Nat) (h : tk0 s = .ok (ts, n, q)) : res t s = (s.extract 0 6, s.extract 6 12, ts.map t, n, s.extract q s.size, 0) := by unfold res; rw [h]; rfl
end Go.Proofs.Ytfdhifigndmgaaa.L05
namespace Go.Proofs.Ytfdhifigndmgaaa.L09
open Go Go.RowKit Go.Proofs.Ytfdhifigndmgaaa.Q Go.Proofs.Ytfdhifigndmgaaa.Base Go.Proofs.Ytfdhifigndmgaaa.L04 Go.Proofs.Ytfdhifigndmgaaa.LAt Go.Proofs.YtfdhifigndmgaaaW.PrintWords Go.Proofs.YtfdhifigndmgaaaW.PrintMore
set_option linter.unusedVariables false
set_option linter.unusedSimpArgs false
structure Fl where
  src : ByteArray
  dst : ByteArray
  proto : Int
  sp : Int
  dp : Int
def okF (f : Fl) : Prop := f.src.size = 16 ∧ f.dst.size = 16 ∧ (0 ≤ f.proto ∧ f.proto ≤ 255) ∧ (0 ≤ f.sp ∧ f.sp ≤ 65535) ∧ (0 ≤ f.dp ∧ f.dp ≤ 65535)
instance (f : Fl) : Decidable (okF f) := by unfold okF; infer_instance
def keyL (f : Fl) : List UInt8 := f.src.data.toList ++ f.dst.data.toList ++ one f.proto ++ two f.sp ++ two f.dp
def keyS (f : Fl) : ByteArray × Int := if okF f then (mkB (keyL f), 0) else (mkB [], 1)
theorem put_small (n : Int) (b : Nat) (hb : b = 1 ∨ b = 2) : (putS n (b : Int)).1.size ≤ 2 ∧ ((putS n (b : Int)).2 = 0 ∨ (putS n (b : Int)).2 = 1) := by
  unfold putS
  split
  · exact ⟨by simp [mkB_size], .inr rfl⟩
  · refine ⟨?_, .inl rfl⟩
    simp only [mkB_size, enc_length]; omega
theorem put1_ok (n : Int) : (putS n 1).2 = 0 ↔ (0 ≤ n ∧ n ≤ 255) := by
  unfold putS
  simp only [show (1 : Int).toNat = 1 from rfl]
  split
  · constructor
    · intro h; exact absurd h (by decide)
    · intro h; omega
  · constructor
    · intro _; omega
    · intro _; rfl
theorem put2_ok (n : Int) : (putS n 2).2 = 0 ↔ (0 ≤ n ∧ n ≤ 65535) := by
  unfold putS
  simp only [show (2 : Int).toNat = 2 from rfl]
  split
  · constructor
    · intro h; exact absurd h (by decide)
    · intro h; omega
  · constructor
    · intro _; omega
    · intro _; rfl
theorem mx3 (a b c : Int) (ha : a = 0 ∨ a = 1) (hb : b = 0 ∨ b = 1) (hc : c = 0 ∨ c = 1) : mx (mx a b) c = 0 ↔ a = 0 ∧ b = 0 ∧ c = 0 := by
  rcases ha with rfl | rfl <;> rcases hb with rfl | rfl <;> rcases hc with rfl | rfl <;> decide
theorem key_eq (f : Fl) (k : Nat) (hk : 20 ≤ k) : flow_Key.f k f.src f.dst f.proto f.sp f.dp = some (keyS f) := by
  unfold flow_Key.f keyS
  rw [put_eq _ _ _ (by omega), Option.bind_some, put_eq _ _ _ (by omega), Option.bind_some, put_eq _ _ _ (by omega), Option.bind_some]
  by_cases c1 : f.src.size = 16
  case neg => rw [if_neg (by omega), if_neg (fun o : okF f => c1 o.1)]; rfl
  by_cases c2 : f.dst.size = 16
  case neg => rw [if_pos (by omega), if_neg (by omega), if_neg (fun o : okF f => c2 o.2.1)]; rfl
  rw [if_pos (by omega), if_pos (by omega)]
  have p1 := put_small f.proto 1 (by omega)
  have p2 := put_small f.sp 2 (by omega)
  have p3 := put_small f.dp 2 (by omega)
  have m := mx3 _ _ _ p1.2 p2.2 p3.2
  rw [show ((1 : Nat) : Int) = 1 from rfl, show ((2 : Nat) : Int) = 2 from rfl, put1_ok, put2_ok, put2_ok] at m
  by_cases c3 : (0 ≤ f.proto ∧ f.proto ≤ 255) ∧ (0 ≤ f.sp ∧ f.sp ≤ 65535) ∧ (0 ≤ f.dp ∧ f.dp ≤ 65535)
  case neg => rw [if_neg (fun h => c3 (m.1 h)), if_neg (fun o : okF f => c3 o.2.2)]; rfl
  have hok : okF f := ⟨c1, c2, c3⟩
  rw [if_pos (m.2 c3), if_pos hok, putS_one c3.1.1 c3.1.2, putS_two c3.2.1.1 c3.2.1.2, putS_two c3.2.2.1 c3.2.2.2]
  have e : f.src ++ f.dst = mkB (f.src.data.toList ++ f.dst.data.toList) := by rw [← mkB_eta (f.src ++ f.dst), app_list]
  have hl1 := len f.src
  have hl2 := len f.dst
  simp only [e, mkB_app, mkB_size, List.length_append, one_length, two_length, hl1, hl2]
  rw [if_pos (by omega), if_pos (by omega), if_pos (by omega), if_pos (by omega)]
  rfl
/-- The flow of a key. -/
def ofS (s : ByteArray) : Fl := ⟨s.extract 0 16, s.extract 16 32, (at_ s 32 33 : Nat), (at_ s 33 35 : Nat), (at_ s 35 37 : Nat)⟩
theorem of_eq (s : ByteArray) (h : s.size = 37) (k : Nat) (hk : 20 ≤ k) : flow_Of.f k s = some ((ofS s).src, (ofS s).dst, (ofS s).proto, (ofS s).sp, (ofS s).dp, 0) := by
  unfold flow_Of.f
  have t1 := take_at s 32 1 (by omega) (by omega) k (by omega)
  have t2 := take_at s 33 2 (by omega) (by omega) k (by omega)
  have t3 := take_at s 35 2 (by omega) (by omega) k (by omega)
  simp only [Nat.reduceAdd, show ((1 : Nat) : Int) = 1 from rfl, show ((2 : Nat) : Int) = 2 from rfl] at t1 t2 t3
  rw [if_pos (by omega), if_pos (by decide), if_pos (by omega), if_pos (by decide), if_pos (by omega), t1]
  simp only [Option.bind_some]
  rw [t2]
  simp only [Option.bind_some]
  rw [t3]; rfl
theorem awake_eq (k : Nat) (hk : 40 ≤ k) : rillmeterlaw09_awake.f k = some true := by
  unfold rillmeterlaw09_awake.f
  have := key_eq ⟨⟨#[115, 115, 115, 115, 115, 115, 115, 115, 115, 115, 115, 115, 115, 115, 115, 115]⟩, ⟨#[100, 100, 100, 100, 100, 100, 100, 100, 100, 100, 100, 100, 100, 100, 100, 100]⟩, 17, 258, 1⟩ k (by omega)
  rw [this, Option.bind_some, of_eq _ (by decide +kernel) k (by omega), Option.bind_some]
  decide +kernel
end Go.Proofs.Ytfdhifigndmgaaa.L09
namespace Go.Proofs.Ytfdhifigndmgaaa.L09
open Go Go.RowKit Go.Proofs.Ytfdhifigndmgaaa.Q Go.Proofs.Ytfdhifigndmgaaa.Base Go.Proofs.Ytfdhifigndmgaaa.L04 Go.Proofs.Ytfdhifigndmgaaa.LAt Go.Proofs.YtfdhifigndmgaaaW.PrintWords Go.Proofs.YtfdhifigndmgaaaW.PrintMore
set_option linter.unusedVariables false
set_option linter.unusedSimpArgs false
def zF : Fl := ⟨mkB [], mkB [], 0, 0, 0⟩
def mp : ByteArray := ⟨#[0, 0, 0, 0, 0, 0, 0, 0, 0, 0, 255, 255]⟩
/-- The flow without ports, its body, and the error. -/
def net (kind : Int) (s : ByteArray) : Fl × ByteArray × Int :=
  if kind = 2048 then
    (if L06.err4 s = 0 then (⟨mp ++ (L06.h4 s).src, mp ++ (L06.h4 s).dst, (L06.h4 s).proto, 0, 0⟩, s.extract (L06.hlen s) (at_ s 2 4), if (L06.h4 s).off = 0 then 0 else 14)
     else (⟨mp, mp, 0, 0, 0⟩, mkB [], L06.err4 s))
  else if kind = 34525 then
    (if (L07.take6 L07.t1 s).2.2.2.2.2.2.2.2 = 0 then
      (⟨(L07.take6 L07.t1 s).2.2.2.2.1, (L07.take6 L07.t1 s).2.2.2.2.2.1, (L07.take6 L07.t1 s).2.2.2.1, 0, 0⟩, (L07.take6 L07.t1 s).2.2.2.2.2.2.2.1, if L07.pieceB ((L07.take6 id s).2.2.2.2.2.2.1) = true then 14 else 0)
     else (zF, mkB [], (L07.take6 L07.t1 s).2.2.2.2.2.2.2.2))
  else (zF, mkB [], 8)
def tupF (x : Fl × ByteArray × Int) : ByteArray × ByteArray × Int × Int × Int × ByteArray × Int := (x.1.src, x.1.dst, x.1.proto, x.1.sp, x.1.dp, x.2.1, x.2.2)
theorem net_eq (kind : Int) (s : ByteArray) (hs : s.size ≤ 140737488351232) (k : Nat) (hk : 210 ≤ k) : flow_network.f k kind s = some (tupF (net kind s)) := by
  unfold flow_network.f net
  by_cases c4 : kind = 2048
  · rw [if_pos c4, if_pos c4, L06.take4_eq s hs k (by omega), Option.bind_some]
    by_cases e : L06.err4 s = 0
    · have z1 : (L06.h4 s).src.size ≤ 4 := by unfold L06.h4; rw [ByteArray.size_extract]; omega
      have z2 : (L06.h4 s).dst.size ≤ 4 := by unfold L06.h4; rw [ByteArray.size_extract]; omega
      have et : L06.take4 s = L06.tup (L06.h4 s) (s.extract (L06.hlen s) (at_ s 2 4)) 0 := by unfold L06.take4; rw [if_pos e]
      rw [et, if_pos e]
      unfold L06.tup
      dsimp only
      rw [if_pos rfl]
      by_cases o : (L06.h4 s).off = 0
      · rw [if_pos o, if_pos (by omega), if_pos (by omega), if_pos o]; rfl
      · rw [if_neg o, if_pos (by omega), if_pos (by omega), if_neg o]; rfl
    · rw [L06.take4_err rfl e, if_neg e]
      unfold L06.tup L06.zero4
      dsimp only
      rw [if_neg e, if_pos (by decide)]
      have : mp ++ mkB [] = mp := by show mkB _ ++ mkB [] = _; rw [mkB_app, List.append_nil]; rfl
      show some (mp ++ mkB [], mp ++ mkB [], _, _, _, _, _) = _
      rw [this]; rfl
  rw [if_neg c4, if_neg c4]
  by_cases c6 : kind = 34525
  · rw [if_pos c6, if_pos c6, L07.take6_eq s hs k (by omega), Option.bind_some]
    rcases L07.take6_cases s with ⟨e, hv, he⟩ | ⟨h, body, he, hr, hf, hp, hok⟩
    · rw [he _ L07.t1]
      dsimp only
      rw [if_neg (by omega), if_neg (by omega)]; rfl
    · have hl := ((L07.right_iff h).mp hr).2.2.2.2.2.2.2.2
      rw [he _ L07.t1, he _ id]
      dsimp only
      rw [if_pos rfl, if_pos rfl, L07.piece_eq h.ch _ _ _ _ _ _ (by omega) k (by omega), Option.bind_some, List.map_id]
      cases L07.pieceB h.ch
      · rw [if_neg (by decide), if_neg (by decide)]; rfl
      · rw [if_pos rfl, if_pos rfl]; rfl
  · rw [if_neg c6, if_neg c6]; rfl
def fin (N : Fl × ByteArray × Int) : Fl × Int :=
  if N.2.2 ≠ 0 then (zF, N.2.2)
  else if N.1.proto = 6 ∨ N.1.proto = 17 then
    (if (L08.portS N.1.proto N.2.1).2.2.2 = 0 then (⟨N.1.src, N.1.dst, N.1.proto, (L08.portS N.1.proto N.2.1).1, (L08.portS N.1.proto N.2.1).2.1⟩, 0) else (zF, (L08.portS N.1.proto N.2.1).2.2.2))
  else (N.1, 0)
def extr (s : ByteArray) : Fl × Int :=
  if 2048 < s.size then (zF, 4) else match L05.tk0 s with
  | .error e => (zF, e)
  | .ok (_, n, q) => fin (net n (s.extract q s.size))
def tupE (x : Fl × Int) : ByteArray × ByteArray × Int × Int × Int × Int := (x.1.src, x.1.dst, x.1.proto, x.1.sp, x.1.dp, x.2)
theorem net_body (kind : Int) (s : ByteArray) (hs : s.size ≤ 140737488351232) : (net kind s).2.1.size ≤ 140737488351232 := by
  unfold net
  have z0 : (mkB []).size = 0 := rfl
  by_cases c4 : kind = 2048
  · rw [if_pos c4]
    by_cases e : L06.err4 s = 0
    · rw [if_pos e]; dsimp only; rw [ByteArray.size_extract]; omega
    · rw [if_neg e]; dsimp only; omega
  rw [if_neg c4]
  by_cases c6 : kind = 34525
  · rw [if_pos c6]
    rcases L07.take6_cases s with ⟨e, hv, he⟩ | ⟨h, body, he, hr, hf, hp, hok⟩
    · rw [he _ L07.t1]
      dsimp only
      rw [if_neg (by omega)]; dsimp only; omega
    · rw [he _ L07.t1]
      dsimp only
      rw [if_pos rfl]
      dsimp only
      unfold L07.fits at hf; omega
  · rw [if_neg c6]; dsimp only; omega
theorem extr_eq (s : ByteArray) (hs : s.size ≤ 140737488351232) (k : Nat) (hk : 220 ≤ k) : flow_Extract.f k s = some (tupE (extr s)) := by
  obtain ⟨k, rfl⟩ : ∃ m, k = m + 1 := ⟨k - 1, by omega⟩
  unfold flow_Extract.f extr
  by_cases c1 : 2048 < s.size
  · rw [if_pos (by omega), if_pos c1]; rfl
  rw [if_neg (by omega), if_neg c1, L05.ethtake_eq s _ (by omega), Option.bind_some]
  cases t : L05.tk0 s with
  | error e =>
    rw [L05.res_err L05.t1 s e t]
    dsimp only
    rw [if_neg (L05.tk0_err s e t)]; rfl
  | ok v =>
    obtain ⟨ts, n, q⟩ := v
    rw [L05.res_ok L05.t1 s ts n q t]
    have hz : (s.extract q s.size).size ≤ 140737488351232 := by rw [ByteArray.size_extract]; omega
    dsimp only
    rw [if_pos rfl, net_eq n _ hz (k + 1) (by omega), Option.bind_some]
    have hb := net_body n (s.extract q s.size) hz
    generalize net n (s.extract q s.size) = N at hb
    unfold tupF fin
    dsimp only
    by_cases e : N.2.2 = 0
    case neg => rw [if_neg e, if_pos e]; rfl
    rw [if_pos e, if_neg (show ¬ (N.2.2 ≠ 0) from fun h => h e)]
    have hp : (N.1.proto = 6 ∨ N.1.proto = 17) → flow_Extract.j0 (k + 1) N.2.1 false N.1.src N.1.dst N.1.proto N.1.sp N.1.dp = some (tupE (if (L08.portS N.1.proto N.2.1).2.2.2 = 0 then (⟨N.1.src, N.1.dst, N.1.proto, (L08.portS N.1.proto N.2.1).1, (L08.portS N.1.proto N.2.1).2.1⟩, 0) else (zF, (L08.portS N.1.proto N.2.1).2.2.2))) := by
      intro _
      simp only [flow_Extract.j0]
      rw [if_neg (by decide), L08.port_eq _ _ hb k (by omega), Option.bind_some]
      by_cases e2 : (L08.portS N.1.proto N.2.1).2.2.2 = 0
      · rw [if_pos e2, if_pos e2]; rfl
      · rw [if_neg e2, if_neg e2]; rfl
    by_cases p6 : N.1.proto = 6
    · rw [if_pos p6, if_pos (.inl p6)]; exact hp (.inl p6)
    rw [if_neg p6]
    by_cases p17 : N.1.proto = 17
    · rw [if_pos (.inr p17), bne_eq_false_iff_eq.mpr p17]; exact hp (.inr p17)
    · rw [if_neg (by omega), bne_iff_ne.mpr p17]
      simp only [flow_Extract.j0, if_true]; rfl
end Go.Proofs.Ytfdhifigndmgaaa.L09
namespace Go.Proofs.Ytfdhifigndmgaaa.L09
open Go Go.RowKit Go.Proofs.Ytfdhifigndmgaaa.Q Go.Proofs.Ytfdhifigndmgaaa.Base Go.Proofs.Ytfdhifigndmgaaa.L04 Go.Proofs.Ytfdhifigndmgaaa.LAt Go.Proofs.YtfdhifigndmgaaaW.PrintWords Go.Proofs.YtfdhifigndmgaaaW.PrintMore
set_option linter.unusedVariables false
set_option linter.unusedSimpArgs false
theorem refj1_eq (k : Nat) (hk : 100 ≤ k) (b : ByteArray) (hb : b.size ≤ 140737488351232) (src dst : ByteArray) (p : Int) (w : Bool) (hw : w = decide (p = 6 ∨ p = 17)) :
    rillmeterref09_Extract.j1 k b w src dst p 0 0 = some (tupE (fin (⟨src, dst, p, 0, 0⟩, b, 0))) := by
  obtain ⟨k, rfl⟩ : ∃ m, k = m + 1 := ⟨k - 1, by omega⟩
  simp only [rillmeterref09_Extract.j1]
  unfold fin
  dsimp only
  rw [if_neg (show ¬ ((0 : Int) ≠ 0) from fun h => h rfl)]
  by_cases c : p = 6 ∨ p = 17
  · rw [hw, decide_eq_true c, if_pos rfl, if_pos c, L08.refport_eq _ _ hb k (by omega), Option.bind_some]
    by_cases e : (L08.portS p b).2.2.2 = 0
    · rw [if_pos e, if_pos e]; rfl
    · rw [if_neg e, if_neg e]; rfl
  · rw [hw, decide_eq_false c, if_neg (by decide), if_neg c]; rfl
theorem refj0_eq (k : Nat) (hk : 101 ≤ k) (b : ByteArray) (hb : b.size ≤ 140737488351232) (src dst : ByteArray) (p : Int) :
    rillmeterref09_Extract.j0 k b src dst p 0 0 = some (tupE (fin (⟨src, dst, p, 0, 0⟩, b, 0))) := by
  obtain ⟨k, rfl⟩ : ∃ m, k = m + 1 := ⟨k - 1, by omega⟩
  simp only [rillmeterref09_Extract.j0]
  by_cases c : p = 6
  · rw [if_pos c, refj1_eq k (by omega) b hb _ _ _ _ (by rw [decide_eq_true (Or.inl c)])]
  · rw [if_neg c, refj1_eq k (by omega) b hb _ _ _ _ (by
      by_cases d : p = 17
      · rw [decide_eq_true (Or.inr d), beq_iff_eq.mpr d]
      · rw [decide_eq_false (by omega), beq_eq_false_iff_ne.mpr d])]
theorem refextr_eq (s : ByteArray) (hs : s.size ≤ 140737488351232) (k : Nat) (hk : 220 ≤ k) : rillmeterref09_Extract.f k s = some (tupE (extr s)) := by
  unfold rillmeterref09_Extract.f extr
  by_cases c1 : 2048 < s.size
  · rw [if_pos (by omega), if_pos c1]; rfl
  rw [if_neg (by omega), if_neg c1, L05.refethtake_eq s hs k (by omega), Option.bind_some]
  cases t : L05.tk0 s with
  | error e =>
    rw [L05.res_err L05.t2 s e t]
    dsimp only
    rw [if_neg (L05.tk0_err s e t)]; rfl
  | ok v =>
    obtain ⟨ts, n, q⟩ := v
    rw [L05.res_ok L05.t2 s ts n q t]
    have hz : (s.extract q s.size).size ≤ 140737488351232 := by rw [ByteArray.size_extract]; omega
    dsimp only
    rw [if_pos rfl]
    have hb := net_body n (s.extract q s.size) hz
    generalize s.extract q s.size = x at hz hb
    unfold net at hb ⊢
    by_cases c4 : n = 2048
    · rw [if_pos c4] at hb
      rw [if_pos c4, if_pos c4, L06.reftake4_eq x hz k (by omega), Option.bind_some]
      by_cases e : L06.err4 x = 0
      · have z1 : (L06.h4 x).src.size ≤ 4 := by unfold L06.h4; rw [ByteArray.size_extract]; omega
        have z2 : (L06.h4 x).dst.size ≤ 4 := by unfold L06.h4; rw [ByteArray.size_extract]; omega
        have r := L06.right_h4 x e
        have et : L06.take4 x = L06.tup (L06.h4 x) (x.extract (L06.hlen x) (at_ x 2 4)) 0 := by unfold L06.take4; rw [if_pos e]
        rw [if_pos e] at hb
        rw [et, if_pos e]
        unfold L06.tup
        dsimp only at hb ⊢
        rw [if_pos rfl]
        by_cases o : (L06.h4 x).off = 0
        · have m1 : strOfNums (List.replicate 10 0) ++ strOfNums [255, 255] = mp := by rw [nums_mkB, nums_mkB, mkB_app]; rfl
          have m2 : mp.size = 12 := rfl
          have m3 : (strOfNums (List.replicate 10 0)).size = 10 := rfl
          have m4 : (strOfNums ([255, 255] : List Int)).size = 2 := rfl
          rw [if_neg (by omega), if_pos (by decide), Option.bind_some, Option.bind_some, m1, if_pos (by omega), if_pos (by omega), if_pos (by omega), refj0_eq k (by omega) _ hb, if_pos o]
        · have := r.2.2.2.2.2.1
          rw [if_pos (by omega), if_neg o]; rfl
      · rw [L06.take4_err rfl e, if_neg e]
        unfold L06.tup L06.zero4 fin
        dsimp only
        rw [if_neg e, if_pos e]; rfl
    rw [if_neg c4] at hb
    rw [if_neg c4, if_neg c4]
    by_cases c6 : n = 34525
    · rw [if_pos c6] at hb
      rw [if_pos c6, if_pos c6, L07.reftake6_eq x hz k (by omega), Option.bind_some]
      rcases L07.take6_cases x with ⟨e, hv, he⟩ | ⟨h, body, he, hr, hf, hp, hok⟩
      · rw [he _ L07.t1, he _ L07.t2]
        unfold fin
        dsimp only
        have he0 : ¬ e = 0 := by omega
        rw [if_neg he0, if_neg he0]
        dsimp only
        rw [if_pos he0]; rfl
      · have hl := ((L07.right_iff h).mp hr).2.2.2.2.2.2.2.2
        rw [he _ L07.t1] at hb
        rw [he _ L07.t1, he _ L07.t2, he _ id]
        dsimp only at hb ⊢
        rw [if_pos rfl] at hb
        dsimp only at hb
        rw [if_pos rfl, if_pos rfl, L07.refpiece_eq h.ch _ _ _ _ _ _ (by omega) k (by omega), Option.bind_some, List.map_id]
        cases L07.pieceB h.ch
        · rw [if_neg (by decide), if_neg (by decide), refj0_eq k (by omega) _ hb]
        · rw [if_pos rfl, if_pos rfl]; rfl
    · rw [if_neg c6, if_neg c6]; rfl
end Go.Proofs.Ytfdhifigndmgaaa.L09
