/- What the printed functions answer, told by plain functions on bytes: octet.Cut and octet.Take. What the printed functions answer, told by plain functions on bytes: octet.Put. What the printed functions answer, told by plain functions on bytes: octet.Sum. Numbers and pieces at places of a text; two bytes of a number. What the printed functions of layer 6 (ipfour) answer, told by plain functions on bytes. Layer 6 (ipfour): what stands behind a packet's length turns nothing. Layer 6 (ipfour): the reference where it writes; what is written is taken back. -/
import Derived.Test.YtdmofjhncdkofaaBase
import Derived.Test.YtdmofjhncdkofaaQx4
import Derived.Test.YtdmofjhncdkofaaQx1
import Derived.Test.YtdmofjhncdkofaaQx7
import Derived.Test.YtdmofjhncdkofaaQx3
import Derived.Test.YtdmofjhncdkofaaQx6
import Derived.Test.YtdmofjhncdkofaaQx5
import Derived.Test.YtdmofjhncdkofaaQx2
namespace Go.Proofs.Ytdmofjhncdkofaa.L04
open Go Go.RowKit Go.Proofs.Ytdmofjhncdkofaa.Q Go.Proofs.Ytdmofjhncdkofaa.Base Go.Proofs.YtdmofjhncdkofaaW.PrintWords Go.Proofs.YtdmofjhncdkofaaW.PrintMore
set_option linter.unusedVariables false
set_option linter.unusedSimpArgs false
def cutS (s : ByteArray) (b : Int) : ByteArray × ByteArray × Int :=
  if b < 0 then (mkB [], mkB [], 1) else if (s.size : Int) < b then (mkB [], mkB [], 2) else (s.extract 0 b.toNat, s.extract b.toNat s.size, 0)
theorem cut_eq (s : ByteArray) (b : Int) : octet_Cut.f s b = some (cutS s b) := by
  unfold octet_Cut.f cutS
  by_cases h : b < 0
  · rw [if_pos h, if_pos h]; rfl
  · rw [if_neg h, if_neg h]
    by_cases h1 : (s.size : Int) < b
    · rw [if_pos h1, if_pos h1]; rfl
    · rw [if_neg h1, if_neg h1, if_pos (by omega), if_pos (by omega)]
theorem take_loop (s rest : ByteArray) (hs : s.size ≤ 7) (d : Nat) : ∀ (k : Nat) (i n : Nat), i + d = s.size → n = num (s.data.toList.take i) → d < k →
    octet_Take.l0 k s rest (n : Int) (s.size : Int) (i : Int) = some ((num s.data.toList : Int), rest, 0) := by
  induction d with
  | zero =>
    intro k i n hi hn hk
    obtain ⟨k, rfl⟩ : ∃ m, k = m + 1 := ⟨k - 1, by omega⟩
    simp only [octet_Take.l0]
    rw [if_neg (by omega), hn, List.take_of_length_le (by rw [len]; omega)]
  | succ d ih =>
    intro k i n hi hn hk
    obtain ⟨k, rfl⟩ : ∃ m, k = m + 1 := ⟨k - 1, by omega⟩
    have hlt : i < s.data.toList.length := by rw [len]; omega
    have hb : bt s (i : Int) = ((s.data.toList[i]).toNat : Int) := bt_get s i hlt
    have hbl : (s.data.toList[i]).toNat < 256 := UInt8.toNat_lt _
    have hnl : n < 256 ^ 6 := by
      rw [hn]
      refine Nat.lt_of_lt_of_le (num_lt _) (Nat.pow_le_pow_right (by omega) ?_)
      rw [List.length_take]; omega
    have hstep : num (s.data.toList.take (i + 1)) = n * 256 + (s.data.toList[i]).toNat := by
      rw [List.take_succ_eq_append_getElem hlt, num_snoc, hn]
    simp only [octet_Take.l0]
    rw [if_pos (by omega), if_pos (by omega), if_pos (by omega)]
    have e1 : Go.bits .or .i64 (wrap64 ((n : Int) * 256)) (wrap64 (bt s (i : Int))) = ((num (s.data.toList.take (i + 1)) : Nat) : Int) := by
      rw [w64 (by omega) (by omega), hb, w64 (by omega) (by omega), or_join _ _ (by omega) (by omega) (by omega) (by omega), hstep]
      omega
    have e2 : wrap64 ((i : Int) + 1) = ((i + 1 : Nat) : Int) := by rw [w64 (by omega) (by omega)]; omega
    rw [e1, e2]
    exact ih k (i + 1) _ (by omega) rfl (by omega)
def takeS (s : ByteArray) (b : Int) : Int × ByteArray × Int :=
  if b < 1 ∨ 7 < b then (0, mkB [], 1) else if (s.size : Int) < b then (0, mkB [], 2)
  else ((num (s.data.toList.take b.toNat) : Int), s.extract b.toNat s.size, 0)
theorem take_eq (s : ByteArray) (b : Int) (k : Nat) (hk : 10 ≤ k) : octet_Take.f k s b = some (takeS s b) := by
  obtain ⟨k, rfl⟩ : ∃ m, k = m + 1 := ⟨k - 1, by omega⟩
  unfold octet_Take.f takeS
  by_cases h : b < 1
  · rw [if_pos h, if_pos (.inl h)]; simp only [octet_Take.j0, if_true]; rfl
  · rw [if_neg h]
    by_cases h7 : b > 7
    · rw [if_pos (.inr h7), decide_eq_true h7]; simp only [octet_Take.j0, if_true]; rfl
    · have h8 : ¬ (b < 1 ∨ 7 < b) := by omega
      have h9 : ¬ b < 0 := by omega
      rw [if_neg h8, decide_eq_false h7]; simp only [octet_Take.j0, Bool.false_eq_true, if_false]; rw [cut_eq]
      unfold cutS
      rw [if_neg h9]
      by_cases h1 : (s.size : Int) < b
      · rw [if_pos h1, if_pos h1]; rfl
      · rw [if_neg h1, if_neg h1]; simp only [Option.bind_some, if_true]
        have hz : (s.extract 0 b.toNat).size = b.toNat := by rw [ByteArray.size_extract]; omega
        have := take_loop (s.extract 0 b.toNat) (s.extract b.toNat s.size) (by omega) b.toNat k 0 0 (by omega) (by simp [num]) (by omega)
        rw [hz] at this ⊢
        rw [show ((0 : Nat) : Int) = 0 from rfl] at this
        rw [this]
        have e : (s.extract 0 b.toNat).data.toList = s.data.toList.take b.toNat := by
          have := mkB_extract s.data.toList 0 b.toNat
          rw [mkB_eta] at this
          rw [this, mkB_data]; simp
        rw [e]
end Go.Proofs.Ytdmofjhncdkofaa.L04
namespace Go.Proofs.Ytdmofjhncdkofaa.L04
open Go Go.RowKit Go.Proofs.Ytdmofjhncdkofaa.Q Go.Proofs.Ytdmofjhncdkofaa.Base Go.Proofs.YtdmofjhncdkofaaW.PrintWords Go.Proofs.YtdmofjhncdkofaaW.PrintMore
set_option linter.unusedVariables false
set_option linter.unusedSimpArgs false
theorem shr_at (a y : Int) (h0 : 0 ≤ y) (h1 : y ≤ 64) : shr .i64 a y = a / 2 ^ y.toNat := by
  unfold shr
  rw [Nat.min_eq_left (by show y.toNat ≤ 64; omega)]
/-- The digits of a number, from the i-th on. -/
def digs (n b : Nat) : Nat → Nat → List Nat
  | _, 0 => []
  | i, d + 1 => (n / 2 ^ (8 * (b - 1 - i)) % 256) :: digs n b (i + 1) d
theorem put_loop (a : Nat) (b : Nat) (hb : b ≤ 7) (d : Nat) : ∀ (k : Nat) (i : Nat) (xs : List Int), i + d = b → xs.length = b → d < k →
    octet_Put.l0 k (a : Int) (b : Int) xs (b : Int) (i : Int) = some (strOfNums (xs.take i ++ (digs a b i d).map fun n : Nat => (n : Int)), 0) := by
  induction d with
  | zero =>
    intro k i xs hi hx hk
    obtain ⟨k, rfl⟩ : ∃ m, k = m + 1 := ⟨k - 1, by omega⟩
    simp only [octet_Put.l0]
    rw [if_neg (by omega)]
    simp [digs, List.take_of_length_le (show xs.length ≤ i by omega)]
  | succ d ih =>
    intro k i xs hi hx hk
    obtain ⟨k, rfl⟩ : ∃ m, k = m + 1 := ⟨k - 1, by omega⟩
    simp only [octet_Put.l0]
    have e0 : wrap64 (8 * wrap64 (wrap64 ((b : Int) - 1) - (i : Int))) = ((8 * (b - 1 - i) : Nat) : Int) := by
      rw [w64 (n := (b : Int) - 1) (by omega) (by omega), w64 (n := (b : Int) - 1 - i) (by omega) (by omega), w64 (by omega) (by omega)]
      omega
    rw [e0, if_pos (by omega), if_pos (by omega), if_pos (by omega), if_pos (by omega), shr_at _ _ (by omega) (by omega)]
    have e2 : wrap64 ((i : Int) + 1) = ((i + 1 : Nat) : Int) := by rw [w64 (by omega) (by omega)]; omega
    rw [e2, ih k (i + 1) _ (by omega) (by simp [hx]) (by omega)]
    have e3 : ((a : Int) / 2 ^ ((8 * (b - 1 - i) : Nat) : Int).toNat % 256) = ((a / 2 ^ (8 * (b - 1 - i)) % 256 : Nat) : Int) := by
      rw [Int.toNat_natCast]; simp
    have e4 : ((i : Int)).toNat = i := by omega
    rw [e3, e4]
    congr 3
    rw [List.take_succ_eq_append_getElem (by simp; omega), List.getElem_set_self, List.take_set_of_le (Nat.le_refl _)]
    simp [digs]
theorem digs_enc (n b : Nat) (hb : b ≤ 7) : strOfNums ((digs n b 0 b).map fun n : Nat => (n : Int)) = mkB (enc n b) := by
  rw [nums_nat]
  congr 1
  have h : b = 0 ∨ b = 1 ∨ b = 2 ∨ b = 3 ∨ b = 4 ∨ b = 5 ∨ b = 6 ∨ b = 7 := by omega
  have key : ∀ m : Nat, (UInt8.ofNat (m % 256) = UInt8.ofNat m) := by
    intro m; apply UInt8.toNat_inj.1; simp
  rcases h with rfl | rfl | rfl | rfl | rfl | rfl | rfl | rfl <;> simp [digs, enc, Nat.div_div_eq_div_mul, key]
def putS (a b : Int) : ByteArray × Int :=
  if b < 1 ∨ 7 < b ∨ a < 0 ∨ (256 ^ b.toNat : Int) ≤ a then (mkB [], 1) else (mkB (enc a.toNat b.toNat), 0)
theorem pow8 (b : Nat) : (2 : Int) ^ (8 * b) = 256 ^ b := by
  rw [Int.pow_mul]; rfl
theorem put_eq (a b : Int) (k : Nat) (hk : 12 ≤ k) : octet_Put.f k a b = some (putS a b) := by
  obtain ⟨k, rfl⟩ : ∃ m, k = m + 1 := ⟨k - 1, by omega⟩
  unfold octet_Put.f putS
  by_cases h1 : b < 1
  · rw [if_pos h1, if_pos (.inl h1)]; simp only [octet_Put.j0, if_true]; rfl
  rw [if_neg h1]
  by_cases h7 : b > 7
  · rw [if_pos h7, if_pos (.inr (.inl h7))]; simp only [octet_Put.j0, if_true]; rfl
  rw [if_neg h7]
  by_cases h0 : a < 0
  · rw [if_pos h0, if_pos (.inr (.inr (.inl h0)))]; simp only [octet_Put.j0, if_true]; rfl
  rw [if_neg h0]
  obtain ⟨B, rfl⟩ := Int.eq_ofNat_of_zero_le (show 0 ≤ b by omega)
  obtain ⟨n, rfl⟩ := Int.eq_ofNat_of_zero_le (show 0 ≤ a by omega)
  have e0 : wrap64 (8 * (B : Int)) = ((8 * B : Nat) : Int) := by rw [w64 (by omega) (by omega)]; omega
  rw [e0, if_pos (by omega), shr_at _ _ (by omega) (by omega)]
  have e1 : (2 : Int) ^ ((8 * B : Nat) : Int).toNat = 256 ^ B := by rw [← pow8]; rfl
  have e2 : ((B : Int)).toNat = B := rfl
  have hp : (0 : Int) < 256 ^ B := Int.pow_pos (by omega)
  rw [e1, e2]
  by_cases hg : (256 ^ B : Int) ≤ (n : Int)
  · rw [if_pos (.inr (.inr (.inr hg)))]
    simp only [octet_Put.j0]
    have : (n : Int) / 256 ^ B ≠ 0 := by
      intro h
      have h2 := Int.mul_ediv_add_emod (n : Int) (256 ^ B)
      have h3 := Int.emod_lt_of_pos (n : Int) hp
      rw [h, Int.mul_zero] at h2
      omega
    rw [if_pos (by simpa using this)]; rfl
  · rw [if_neg (by omega)]
    simp only [octet_Put.j0]
    have hz : (n : Int) / 256 ^ B = 0 := Int.ediv_eq_zero_of_lt (by omega) (by omega)
    rw [hz, if_neg (by simp), if_pos (by omega), if_pos (by omega)]
    simp only [Option.bind_some, List.length_replicate, e2]
    have := put_loop n B (by omega) B k 0 (List.replicate B 0) (by omega) (by simp) (by omega)
    rw [show ((0 : Nat) : Int) = 0 from rfl] at this
    rw [this, List.take_zero, List.nil_append, digs_enc n B (by omega)]
    rfl
end Go.Proofs.Ytdmofjhncdkofaa.L04
namespace Go.Proofs.Ytdmofjhncdkofaa.L04
open Go Go.RowKit Go.Proofs.Ytdmofjhncdkofaa.Q Go.Proofs.Ytdmofjhncdkofaa.Base Go.Proofs.YtdmofjhncdkofaaW.PrintWords Go.Proofs.YtdmofjhncdkofaaW.PrintMore
set_option linter.unusedVariables false
set_option linter.unusedSimpArgs false
theorem sum_tail (n : Nat) (hn : n < 4294901760) (k : Nat) (hk : 4 ≤ k) : octet_Sum.l1 k (n : Int) = some ((65535 - fold n : Nat) : Int) := by
  have last : ∀ (k m : Nat), m ≤ 65535 → 1 ≤ k → octet_Sum.l1 k (m : Int) = some ((65535 - fold m : Nat) : Int) := by
    intro k m hm hk
    obtain ⟨k, rfl⟩ : ∃ m, k = m + 1 := ⟨k - 1, by omega⟩
    simp only [octet_Sum.l1]
    rw [if_neg (by omega), i64_xor _ (by omega) (by omega), fold_small hm]
    congr 1; omega
  have step : ∀ (k m : Nat), 65535 < m → m < 9223372036854775807 → octet_Sum.l1 (k + 1) (m : Int) = octet_Sum.l1 k ((m % 65536 + m / 65536 : Nat) : Int) := by
    intro k m hm h
    simp only [octet_Sum.l1]
    rw [if_pos (by omega), and_low _ (by omega) (by omega), w64 (by omega) (by omega)]
    congr 1
  by_cases h1 : n ≤ 65535
  · exact last k n h1 (by omega)
  obtain ⟨k, rfl⟩ : ∃ m, k = m + 1 := ⟨k - 1, by omega⟩
  rw [step k n (by omega) (by omega), ← fold_step n (by omega)]
  by_cases h2 : n % 65536 + n / 65536 ≤ 65535
  · exact last k _ h2 (by omega)
  obtain ⟨k, rfl⟩ : ∃ m, k = m + 1 := ⟨k - 1, by omega⟩
  rw [step k _ (by omega) (by omega), ← fold_step (n % 65536 + n / 65536) (by omega)]
  exact last k _ (by omega) (by omega)
theorem sum_loop (s : ByteArray) (hs : s.size ≤ 65535) (d : Nat) : ∀ (k i acc : Nat), i + d = s.size → acc ≤ 65280 * i → d + 5 ≤ k →
    octet_Sum.l0 k s (acc : Int) (s.size : Int) (i : Int) = some ((65535 - fold (acc + wsum (decide (i % 2 = 0)) (s.data.toList.drop i)) : Nat) : Int) := by
  induction d with
  | zero =>
    intro k i acc hi ha hk
    obtain ⟨k, rfl⟩ : ∃ m, k = m + 1 := ⟨k - 1, by omega⟩
    simp only [octet_Sum.l0]
    rw [if_neg (by omega), sum_tail acc (by omega) k (by omega), List.drop_eq_nil_of_le (by rw [len]; omega)]
    cases decide (i % 2 = 0) <;> simp [wsum]
  | succ d ih =>
    intro k i acc hi ha hk
    obtain ⟨k, rfl⟩ : ∃ m, k = m + 1 := ⟨k - 1, by omega⟩
    have hlt : i < s.data.toList.length := by rw [len]; omega
    have hb : bt s (i : Int) = ((s.data.toList[i]).toNat : Int) := bt_get s i hlt
    have hbl : (s.data.toList[i]).toNat < 256 := UInt8.toNat_lt _
    simp only [octet_Sum.l0]
    rw [if_pos (by omega), if_pos (by omega), if_pos (by omega), and_one _ (by omega) (by omega)]
    have e2 : wrap64 ((i : Int) + 1) = ((i + 1 : Nat) : Int) := by rw [w64 (by omega) (by omega)]; omega
    rw [List.drop_eq_getElem_cons hlt, hb, e2]
    by_cases hp : i % 2 = 0
    · have e3 : wrap64 (8 * wrap64 (1 - (i : Int) % 2)) = 8 := by rw [show (i : Int) % 2 = 0 by omega]; unfold wrap64; omega
      have e4 : shl .i64 (wrap64 (((s.data.toList[i]).toNat : Nat) : Int)) 8 = ((256 * (s.data.toList[i]).toNat : Nat) : Int) := by
        rw [shl_8 _ (by omega) (by omega)]; omega
      rw [e3, if_pos (by decide), e4]
      clear e3 e4
      rw [w64 (by omega) (by omega)]
      have := ih k (i + 1) (acc + 256 * (s.data.toList[i]).toNat) (by omega) (by omega) (by omega)
      rw [show ((acc : Int) + ((256 * (s.data.toList[i]).toNat : Nat) : Int)) = ((acc + 256 * (s.data.toList[i]).toNat : Nat) : Int) by omega, this]
      rw [show decide (i % 2 = 0) = true by simpa using hp, show decide ((i + 1) % 2 = 0) = false by simp; omega]
      simp only [wsum]
      rw [← Nat.add_assoc]
    · have e3 : wrap64 (8 * wrap64 (1 - (i : Int) % 2)) = 0 := by rw [show (i : Int) % 2 = 1 by omega]; unfold wrap64; omega
      have e4 : shl .i64 (wrap64 (((s.data.toList[i]).toNat : Nat) : Int)) 0 = (((s.data.toList[i]).toNat : Nat) : Int) :=
        shl_0 _ (by omega) (by omega)
      rw [e3, if_pos (by decide), e4]
      clear e3 e4
      rw [w64 (by omega) (by omega)]
      have := ih k (i + 1) (acc + (s.data.toList[i]).toNat) (by omega) (by omega) (by omega)
      rw [show ((acc : Int) + (((s.data.toList[i]).toNat : Nat) : Int)) = ((acc + (s.data.toList[i]).toNat : Nat) : Int) by omega, this]
      rw [show decide (i % 2 = 0) = false by simpa using hp, show decide ((i + 1) % 2 = 0) = true by simp; omega]
      simp only [wsum]
      rw [← Nat.add_assoc]
theorem sum_eq (s : ByteArray) (hs : s.size ≤ 65535) (k : Nat) (hk : s.size + 5 ≤ k) : octet_Sum.f k s = some ((isum s.data.toList : Int)) := by
  unfold octet_Sum.f
  have := sum_loop s hs s.size k 0 0 (by omega) (by omega) hk
  rw [show ((0 : Nat) : Int) = 0 from rfl] at this
  rw [this]
  simp [isum]
end Go.Proofs.Ytdmofjhncdkofaa.L04
namespace Go.Proofs.Ytdmofjhncdkofaa.LAt
open Go Go.RowKit Go.Proofs.Ytdmofjhncdkofaa.Q Go.Proofs.Ytdmofjhncdkofaa.Base Go.Proofs.Ytdmofjhncdkofaa.L04 Go.Proofs.YtdmofjhncdkofaaW.PrintWords Go.Proofs.YtdmofjhncdkofaaW.PrintMore
set_option linter.unusedVariables false
set_option linter.unusedSimpArgs false
/-- The number of the bytes from i to j. -/
def at_ (s : ByteArray) (i j : Nat) : Nat := num ((s.data.toList.drop i).take (j - i))
theorem at_lt (s : ByteArray) (i j : Nat) : at_ s i j < 256 ^ (j - i) := by
  refine Nat.lt_of_lt_of_le (num_lt _) (Nat.pow_le_pow_right (by omega) ?_)
  rw [List.length_take]; omega
theorem extract_list (s : ByteArray) (a b : Nat) : (s.extract a b).data.toList = (s.data.toList.drop a).take (b - a) := by
  have := mkB_extract s.data.toList a b
  rw [mkB_eta] at this
  rw [this, mkB_data]
theorem app_list (x y : ByteArray) : (x ++ y).data.toList = x.data.toList ++ y.data.toList := by
  conv => lhs; rw [← mkB_eta x, ← mkB_eta y, mkB_app]
  rfl
theorem app_mkB (l : List UInt8) (y : ByteArray) : mkB l ++ y = mkB (l ++ y.data.toList) := by
  conv => lhs; rw [← mkB_eta y]
  rw [mkB_app]
/-- Take of a piece that begins at a place. -/
theorem take_at (s : ByteArray) (i b : Nat) (hb : 1 ≤ b ∧ b ≤ 7) (hi : i + b ≤ s.size) (k : Nat) (hk : 10 ≤ k) :
    octet_Take.f k (s.extract i s.size) (b : Int) = some (((at_ s i (i + b) : Nat) : Int), s.extract (i + b) s.size, 0) := by
  rw [take_eq _ _ _ hk]
  have hz : (s.extract i s.size).size = s.size - i := by rw [ByteArray.size_extract]; omega
  unfold takeS
  rw [if_neg (by omega), if_neg (by omega)]
  simp only [extract_list, Int.toNat_natCast]
  have e1 : num (List.take b (List.take (s.size - i) (List.drop i s.data.toList))) = at_ s i (i + b) := by
    unfold at_
    rw [List.take_take, show min b (s.size - i) = i + b - i by omega]
  have e2 : (s.extract i s.size).extract b (s.extract i s.size).size = s.extract (i + b) s.size := by
    rw [hz, ByteArray.extract_extract]
    congr 1; omega
  rw [e1, e2]
/-- One byte as a number. -/
theorem at_one (s : ByteArray) (i : Nat) (h : i < s.size) : ((at_ s i (i + 1) : Nat) : Int) = bt s (i : Int) := by
  have hl : i < s.data.toList.length := by rw [len]; exact h
  rw [bt_get s i hl]
  unfold at_
  rw [List.drop_eq_getElem_cons hl, show i + 1 - i = 1 by omega]
  simp [num]
def two (n : Int) : List UInt8 := enc n.toNat 2
def one (n : Int) : List UInt8 := enc n.toNat 1
theorem two_length (n : Int) : (two n).length = 2 := enc_length _ _
theorem one_length (n : Int) : (one n).length = 1 := enc_length _ _
theorem putS_two {n : Int} (h0 : 0 ≤ n) (h1 : n ≤ 65535) : putS n 2 = (mkB (two n), 0) := by
  unfold putS
  rw [if_neg (by simp only [show (2 : Int).toNat = 2 from rfl]; omega)]; rfl
theorem putS_one {n : Int} (h0 : 0 ≤ n) (h1 : n ≤ 255) : putS n 1 = (mkB (one n), 0) := by
  unfold putS
  rw [if_neg (by simp only [show (1 : Int).toNat = 1 from rfl]; omega)]; rfl
theorem num_two {n : Int} (h0 : 0 ≤ n) (h1 : n ≤ 65535) : ((num (two n) : Nat) : Int) = n := by
  unfold two
  rw [num_enc, Nat.mod_eq_of_lt (by simp only [show (256 : Nat) ^ 2 = 65536 from rfl]; omega)]; omega
theorem num_one {n : Int} (h0 : 0 ≤ n) (h1 : n ≤ 255) : ((num (one n) : Nat) : Int) = n := by
  unfold one
  rw [num_enc, Nat.mod_eq_of_lt (by simp only [show (256 : Nat) ^ 1 = 256 from rfl]; omega)]; omega
end Go.Proofs.Ytdmofjhncdkofaa.LAt
namespace Go.Proofs.Ytdmofjhncdkofaa.L06
open Go Go.RowKit Go.Proofs.Ytdmofjhncdkofaa.Q Go.Proofs.Ytdmofjhncdkofaa.Base Go.Proofs.Ytdmofjhncdkofaa.L04 Go.Proofs.Ytdmofjhncdkofaa.LAt Go.Proofs.YtdmofjhncdkofaaW.PrintWords Go.Proofs.YtdmofjhncdkofaaW.PrintMore
set_option linter.unusedVariables false
set_option linter.unusedSimpArgs false
structure H4 where
  tos : Int
  id : Int
  flags : Int
  off : Int
  ttl : Int
  proto : Int
  src : ByteArray
  dst : ByteArray
  opt : ByteArray
/-- A right header. -/
def right (h : H4) : Prop :=
  (0 ≤ h.tos ∧ h.tos < 256) ∧ (0 ≤ h.ttl ∧ h.ttl < 256) ∧ (0 ≤ h.proto ∧ h.proto < 256) ∧ (0 ≤ h.id ∧ h.id < 65536) ∧ (0 ≤ h.flags ∧ h.flags < 8) ∧ (0 ≤ h.off ∧ h.off < 8192) ∧
    h.src.size = 4 ∧ h.dst.size = 4 ∧ h.opt.size ≤ 40 ∧ h.opt.size % 4 = 0
instance (h : H4) : Decidable (right h) := by unfold right; infer_instance
theorem within_eq (a b : Int) : ipfour_within.f a b = some (decide (0 ≤ a ∧ a < b)) := by
  unfold ipfour_within.f
  by_cases h : a ≥ 0
  · rw [if_pos h]
    by_cases h1 : a < b
    · rw [decide_eq_true h1, decide_eq_true (show 0 ≤ a ∧ a < b from ⟨h, h1⟩)]
    · rw [decide_eq_false h1, decide_eq_false (show ¬ (0 ≤ a ∧ a < b) from fun h2 => h1 h2.2)]
  · rw [if_neg h, decide_eq_false (show ¬ (0 ≤ a ∧ a < b) from fun h2 => h h2.1)]
theorem right_eq (h : H4) : ipfour_Right.f h.tos h.id h.flags h.off h.ttl h.proto h.src h.dst h.opt = some (decide (right h)) := by
  unfold ipfour_Right.f
  simp only [within_eq, Option.bind_some]
  by_cases c1 : 0 ≤ h.tos ∧ h.tos < 256
  case neg => rw [decide_eq_false c1, if_neg (by decide), decide_eq_false (fun r : right h => c1 r.1)]
  by_cases c2 : 0 ≤ h.ttl ∧ h.ttl < 256
  case neg => rw [decide_eq_true c1, if_pos rfl, decide_eq_false c2, if_neg (by decide), decide_eq_false (fun r : right h => c2 r.2.1)]
  by_cases c3 : 0 ≤ h.proto ∧ h.proto < 256
  case neg => rw [decide_eq_true c1, if_pos rfl, decide_eq_true c2, if_pos rfl, decide_eq_false c3, if_neg (by decide), decide_eq_false (fun r : right h => c3 r.2.2.1)]
  by_cases c4 : 0 ≤ h.id ∧ h.id < 65536
  case neg => rw [decide_eq_true c1, if_pos rfl, decide_eq_true c2, if_pos rfl, decide_eq_true c3, if_pos rfl, decide_eq_false c4, if_neg (by decide), decide_eq_false (fun r : right h => c4 r.2.2.2.1)]
  by_cases c5 : 0 ≤ h.flags ∧ h.flags < 8
  case neg => rw [decide_eq_true c1, if_pos rfl, decide_eq_true c2, if_pos rfl, decide_eq_true c3, if_pos rfl, decide_eq_true c4, if_pos rfl, decide_eq_false c5, if_neg (by decide), decide_eq_false (fun r : right h => c5 r.2.2.2.2.1)]
  by_cases c6 : 0 ≤ h.off ∧ h.off < 8192
  case neg => rw [decide_eq_true c1, if_pos rfl, decide_eq_true c2, if_pos rfl, decide_eq_true c3, if_pos rfl, decide_eq_true c4, if_pos rfl, decide_eq_true c5, if_pos rfl, decide_eq_false c6, if_neg (by decide), decide_eq_false (fun r : right h => c6 r.2.2.2.2.2.1)]
  rw [decide_eq_true c1, if_pos rfl, decide_eq_true c2, if_pos rfl, decide_eq_true c3, if_pos rfl, decide_eq_true c4, if_pos rfl, decide_eq_true c5, if_pos rfl, decide_eq_true c6, if_pos rfl]
  by_cases c7 : h.src.size = 4
  case neg => rw [if_neg (by omega), decide_eq_false (fun r : right h => c7 r.2.2.2.2.2.2.1)]
  by_cases c8 : h.dst.size = 4
  case neg => rw [if_pos (by omega), if_neg (by omega), decide_eq_false (fun r : right h => c8 r.2.2.2.2.2.2.2.1)]
  by_cases c9 : h.opt.size ≤ 40
  case neg => rw [if_pos (by omega), if_pos (by omega), if_neg (by omega), decide_eq_false (fun r : right h => c9 r.2.2.2.2.2.2.2.2.1)]
  rw [if_pos (by omega), if_pos (by omega), if_pos (by omega)]
  by_cases c10 : h.opt.size % 4 = 0
  · rw [decide_eq_true (show right h from ⟨c1, c2, c3, c4, c5, c6, c7, c8, c9, c10⟩), show ((h.opt.size : Int) % 4 == 0) = true from beq_iff_eq.mpr (by omega)]
  · rw [decide_eq_false (fun r : right h => c10 r.2.2.2.2.2.2.2.2.2), show ((h.opt.size : Int) % 4 == 0) = false from beq_eq_false_iff_ne.mpr (by omega)]
def head (h : H4) (n : Nat) : List UInt8 :=
  one (64 + (20 + (h.opt.size : Int)) / 4) ++ one h.tos ++ two (20 + (h.opt.size : Int) + n) ++ two h.id ++ two (h.flags * 8192 + h.off) ++ one h.ttl ++ one h.proto
def tail (h : H4) : List UInt8 := h.src.data.toList ++ h.dst.data.toList ++ h.opt.data.toList
def sum4 (h : H4) (n : Nat) : Nat := isum (head h n ++ [0, 0] ++ tail h)
def put4 (h : H4) (body : ByteArray) : List UInt8 := head h body.size ++ two (sum4 h body.size) ++ tail h ++ body.data.toList
def ok4 (h : H4) (body : ByteArray) : Prop := right h ∧ 20 + h.opt.size + body.size ≤ 65535
instance (h : H4) (b : ByteArray) : Decidable (ok4 h b) := by unfold ok4; infer_instance
def put4S (h : H4) (body : ByteArray) : ByteArray × Int := if ok4 h body then (mkB (put4 h body), 0) else (mkB [], 1)
theorem head_length (h : H4) (n : Nat) : (head h n).length = 10 := by unfold head; simp only [List.length_append, two_length, one_length]
theorem tail_length {h : H4} (r : right h) : (tail h).length = 8 + h.opt.size := by
  unfold tail; simp only [List.length_append, len]; have := r.2.2.2.2.2.2.1; have := r.2.2.2.2.2.2.2.1; omega
theorem put1 (n : Int) (h0 : 0 ≤ n) (h1 : n ≤ 255) (k : Nat) (hk : 12 ≤ k) : ipfour_put.f k n 1 = some (mkB (one n)) := by
  unfold ipfour_put.f; rw [put_eq _ _ _ hk, putS_one h0 h1]; rfl
theorem put2 (n : Int) (h0 : 0 ≤ n) (h1 : n ≤ 65535) (k : Nat) (hk : 12 ≤ k) : ipfour_put.f k n 2 = some (mkB (two n)) := by
  unfold ipfour_put.f; rw [put_eq _ _ _ hk, putS_two h0 h1]; rfl
theorem put4_eq (h : H4) (body : ByteArray) (ho : h.opt.size ≤ 140737488351232) (hb : body.size ≤ 140737488351232) (k : Nat) (hk : 200 ≤ k) :
    ipfour_Put.f k h.tos h.id h.flags h.off h.ttl h.proto h.src h.dst h.opt body = some (put4S h body) := by
  obtain ⟨k, rfl⟩ : ∃ m, k = m + 1 := ⟨k - 1, by omega⟩
  have no : ∀ n, ipfour_Put.j0 (k + 1) body n true h.tos h.id h.flags h.off h.ttl h.proto h.src h.dst h.opt = some (mkB [], 1) := by
    intro n; simp only [ipfour_Put.j0, if_true]; rfl
  unfold ipfour_Put.f put4S
  rw [right_eq, Option.bind_some]
  have e1 : wrap64 (20 + (h.opt.size : Int)) = 20 + (h.opt.size : Int) := w64 (by omega) (by omega)
  have e2 : wrap64 (20 + (h.opt.size : Int) + (body.size : Int)) = 20 + (h.opt.size : Int) + (body.size : Int) := w64 (by omega) (by omega)
  rw [e1, e2]
  by_cases r : right h
  case neg => rw [decide_eq_false r, if_neg (by decide), if_neg (fun o : ok4 h body => r o.1), no]
  rw [decide_eq_true r, if_pos rfl]
  by_cases z : 20 + (h.opt.size : Int) + (body.size : Int) > 65535
  · rw [decide_eq_true z, if_neg (fun o : ok4 h body => by have := o.2; omega), no]
  rw [decide_eq_false z, if_pos (show ok4 h body from ⟨r, by omega⟩)]
  obtain ⟨c1, c2, c3, c4, c5, c6, c7, c8, c9, c10⟩ := id r
  have e3 : wrap64 (64 + wrap64 (Int.tdiv (20 + (h.opt.size : Int)) 4)) = 64 + (20 + (h.opt.size : Int)) / 4 := by
    rw [Int.tdiv_eq_ediv_of_nonneg (by omega), w64 (n := (20 + (h.opt.size : Int)) / 4) (by omega) (by omega), w64 (by omega) (by omega)]
  have e4 : wrap64 (wrap64 (h.flags * 8192) + h.off) = h.flags * 8192 + h.off := by
    rw [w64 (n := h.flags * 8192) (by omega) (by omega), w64 (by omega) (by omega)]
  simp only [ipfour_Put.j0, Bool.false_eq_true, if_false]
  rw [e3, e4, e2, put1 _ (by omega) (by omega) k (by omega), put1 h.tos (by omega) (by omega) k (by omega), put2 (20 + (h.opt.size : Int) + (body.size : Int)) (by omega) (by omega) k (by omega), put2 h.id (by omega) (by omega) k (by omega), put2 (h.flags * 8192 + h.off) (by omega) (by omega) k (by omega), put1 h.ttl (by omega) (by omega) k (by omega), put1 h.proto (by omega) (by omega) k (by omega)]
  simp only [Option.bind_some, mkB_app]
  have eh : (one (64 + (20 + (h.opt.size : Int)) / 4) ++ one h.tos ++ two (20 + (h.opt.size : Int) + (body.size : Int)) ++ two h.id ++ two (h.flags * 8192 + h.off) ++ one h.ttl ++ one h.proto) = head h body.size := rfl
  have et : h.src ++ h.dst ++ h.opt = mkB (tail h) := by
    rw [← mkB_eta (h.src ++ h.dst ++ h.opt), app_list, app_list]; rfl
  rw [eh, et, show (⟨#[0, 0]⟩ : ByteArray) = mkB [0, 0] from rfl]
  simp only [mkB_app, mkB_size, List.length_append, one_length, two_length, head_length, tail_length r]
  have es : octet_Sum.f k (mkB (head h body.size ++ [0, 0] ++ tail h)) = some ((sum4 h body.size : Nat) : Int) := by
    have hz : (mkB (head h body.size ++ [0, 0] ++ tail h)).size = 20 + h.opt.size := by
      rw [mkB_size]; simp only [List.length_append, head_length, tail_length r]; simp; omega
    rw [sum_eq _ (by omega) _ (by omega)]; rfl
  have hs4 : sum4 h body.size ≤ 65535 := isum_le _
  rw [es]
  simp only [Option.bind_some]
  rw [put2 _ (by omega) (by omega) k (by omega)]
  simp only [Option.bind_some, mkB_app, mkB_size, List.length_append, two_length, head_length, tail_length r]
  have ef : mkB (head h body.size ++ two ((sum4 h body.size : Nat) : Int) ++ tail h) ++ body = mkB (put4 h body) := by
    rw [app_mkB]; rfl
  rw [ef]
  repeat rw [if_pos (by first | omega | (simp; omega))]
def zero4 : H4 := ⟨0, 0, 0, 0, 0, 0, mkB [], mkB [], mkB []⟩
/-- What is told, as the function hands it back. -/
def tup (h : H4) (b : ByteArray) (e : Int) : Int × Int × Int × Int × Int × Int × ByteArray × ByteArray × ByteArray × ByteArray × Int :=
  (h.tos, h.id, h.flags, h.off, h.ttl, h.proto, h.src, h.dst, h.opt, b, e)
/-- How long the header says that it is. -/
def hlen (s : ByteArray) : Nat := 4 * ((bt s 0).toNat % 16)
def err4 (s : ByteArray) : Int :=
  if s.size < 20 then 2 else if bt s 0 / 16 ≠ 4 then 10 else if hlen s < 20 ∨ s.size < hlen s then 11
  else if at_ s 2 4 < hlen s ∨ s.size < at_ s 2 4 then 13 else if isum (s.data.toList.take (hlen s)) ≠ 0 then 12 else 0
def h4 (s : ByteArray) : H4 :=
  ⟨(at_ s 1 2 : Nat), (at_ s 4 6 : Nat), (at_ s 6 8 / 8192 : Nat), (at_ s 6 8 % 8192 : Nat), (at_ s 8 9 : Nat), (at_ s 9 10 : Nat), s.extract 12 16, s.extract 16 20, s.extract 20 (hlen s)⟩
def take4 (s : ByteArray) : Int × Int × Int × Int × Int × Int × ByteArray × ByteArray × ByteArray × ByteArray × Int :=
  if err4 s = 0 then tup (h4 s) (s.extract (hlen s) (at_ s 2 4)) 0 else tup zero4 (mkB []) (err4 s)
theorem itake_eq (s : ByteArray) (i b : Nat) (hb : 1 ≤ b ∧ b ≤ 7) (hi : i + b ≤ s.size) (k : Nat) (hk : 10 ≤ k) : ipfour_take.f k s (i : Int) (b : Int) = some ((at_ s i (i + b) : Nat) : Int) := by
  unfold ipfour_take.f
  rw [if_pos (by omega), if_pos (by omega), Int.toNat_natCast, take_at s i b hb hi k hk]; rfl
theorem and15 (x : Int) (h0 : 0 ≤ x) (h1 : x ≤ 255) : Go.bits .and .u8 x 15 = x % 16 := u8_and15 x h0 (by omega)
theorem and8191 (x : Int) (h0 : 0 ≤ x) (h1 : x < 9223372036854775808) : Go.bits .and .i64 x 8191 = x % 8192 :=
  bits_mask .i64 63 (by decide) i64_keeps 13 (by decide) x h0 (by omega)
theorem take4_err {s : ByteArray} {e : Int} (h : err4 s = e) (hne : e ≠ 0) : take4 s = tup zero4 (mkB []) e := by
  unfold take4; rw [h, if_neg hne]
theorem err4_1 {s : ByteArray} (c1 : s.size < 20) : err4 s = 2 := by unfold err4; rw [if_pos c1]
theorem err4_2 {s : ByteArray} (c1 : ¬ s.size < 20) (c2 : bt s 0 / 16 ≠ 4) : err4 s = 10 := by unfold err4; rw [if_neg c1, if_pos c2]
theorem err4_3 {s : ByteArray} (c1 : ¬ s.size < 20) (c2 : bt s 0 / 16 = 4) (c3 : hlen s < 20 ∨ s.size < hlen s) : err4 s = 11 := by unfold err4; rw [if_neg c1, if_neg (not_not_intro c2), if_pos c3]
theorem err4_4 {s : ByteArray} (c1 : ¬ s.size < 20) (c2 : bt s 0 / 16 = 4) (c3 : ¬ (hlen s < 20 ∨ s.size < hlen s)) (c4 : at_ s 2 4 < hlen s ∨ s.size < at_ s 2 4) : err4 s = 13 := by unfold err4; rw [if_neg c1, if_neg (not_not_intro c2), if_neg c3, if_pos c4]
theorem err4_5 {s : ByteArray} (c1 : ¬ s.size < 20) (c2 : bt s 0 / 16 = 4) (c3 : ¬ (hlen s < 20 ∨ s.size < hlen s)) (c4 : ¬ (at_ s 2 4 < hlen s ∨ s.size < at_ s 2 4)) (c5 : isum (s.data.toList.take (hlen s)) ≠ 0) : err4 s = 12 := by unfold err4; rw [if_neg c1, if_neg (not_not_intro c2), if_neg c3, if_neg c4, if_pos c5]
theorem err4_0 {s : ByteArray} (c1 : ¬ s.size < 20) (c2 : bt s 0 / 16 = 4) (c3 : ¬ (hlen s < 20 ∨ s.size < hlen s)) (c4 : ¬ (at_ s 2 4 < hlen s ∨ s.size < at_ s 2 4)) (c5 : isum (s.data.toList.take (hlen s)) = 0) : err4 s = 0 := by unfold err4; rw [if_neg c1, if_neg (not_not_intro c2), if_neg c3, if_neg c4, if_neg (not_not_intro c5)]
theorem err4_ok {s : ByteArray} (h : err4 s = 0) : ¬ s.size < 20 ∧ bt s 0 / 16 = 4 ∧ ¬ (hlen s < 20 ∨ s.size < hlen s) ∧ ¬ (at_ s 2 4 < hlen s ∨ s.size < at_ s 2 4) ∧ isum (s.data.toList.take (hlen s)) = 0 := by
  by_cases c1 : s.size < 20
  · rw [err4_1 c1] at h; exact absurd h (by decide)
  by_cases c2 : bt s 0 / 16 = 4
  case neg => rw [err4_2 c1 c2] at h; exact absurd h (by decide)
  by_cases c3 : hlen s < 20 ∨ s.size < hlen s
  · rw [err4_3 c1 c2 c3] at h; exact absurd h (by decide)
  by_cases c4 : at_ s 2 4 < hlen s ∨ s.size < at_ s 2 4
  · rw [err4_4 c1 c2 c3 c4] at h; exact absurd h (by decide)
  by_cases c5 : isum (s.data.toList.take (hlen s)) = 0
  case neg => rw [err4_5 c1 c2 c3 c4 c5] at h; exact absurd h (by decide)
  exact ⟨c1, c2, c3, c4, c5⟩
theorem hlen_le (s : ByteArray) : hlen s ≤ 60 := by unfold hlen; omega
theorem take4_eq (s : ByteArray) (hs : s.size ≤ 140737488351232) (k : Nat) (hk : 200 ≤ k) : ipfour_Take.f k s = some (take4 s) := by
  obtain ⟨k, rfl⟩ : ∃ m, k = m + 2 := ⟨k - 2, by omega⟩
  have hb := bt_range s 0
  have hq60 := hlen_le s
  unfold ipfour_Take.f
  by_cases c1 : s.size < 20
  · rw [if_pos (by omega), take4_err (err4_1 c1) (by decide)]; rfl
  rw [if_neg (by omega), if_pos (by omega)]
  have t2 := itake_eq s 2 2 (by omega) (by omega) (k + 2) (by omega)
  rw [show ((2 : Nat) : Int) = 2 from rfl, show 2 + 2 = 4 from rfl] at t2
  rw [t2, Option.bind_some]
  by_cases c2 : bt s 0 / 16 = 4
  case neg => rw [if_neg c2, take4_err (err4_2 c1 c2) (by decide)]; rfl
  rw [if_pos c2]
  have eq : wrap64 (4 * wrap64 (Go.bits .and .u8 (bt s 0) 15)) = ((hlen s : Nat) : Int) := by
    rw [and15 _ hb.1 hb.2, w64 (n := bt s 0 % 16) (by omega) (by omega), w64 (by omega) (by omega)]
    unfold hlen; omega
  rw [eq]
  have bad0 : ∀ n, ipfour_Take.j0 (k + 2) s (hlen s : Int) n true = some (tup zero4 (mkB []) 11) := by
    intro n; rw [show k + 2 = (k + 1) + 1 from rfl]; simp only [ipfour_Take.j0, if_true]; rfl
  by_cases c3 : hlen s < 20
  · rw [if_pos (by omega), bad0, take4_err (err4_3 c1 c2 (.inl c3)) (by decide)]
  rw [if_neg (by omega)]
  by_cases c4 : s.size < hlen s
  · rw [decide_eq_true (by omega), bad0, take4_err (err4_3 c1 c2 (.inr c4)) (by decide)]
  have c34 : ¬ (hlen s < 20 ∨ s.size < hlen s) := by omega
  rw [decide_eq_false (by omega), show k + 2 = (k + 1) + 1 from rfl]
  simp only [ipfour_Take.j0, Bool.false_eq_true, if_false]
  have bad1 : ipfour_Take.j1 (k + 1) s (hlen s : Int) (at_ s 2 4 : Int) true = some (tup zero4 (mkB []) 13) := by simp only [ipfour_Take.j1, if_true]; rfl
  by_cases c5 : at_ s 2 4 < hlen s
  · rw [if_pos (by omega), bad1, take4_err (err4_4 c1 c2 c34 (.inl c5)) (by decide)]
  rw [if_neg (by omega)]
  by_cases c6 : s.size < at_ s 2 4
  · rw [decide_eq_true (by omega), bad1, take4_err (err4_4 c1 c2 c34 (.inr c6)) (by decide)]
  have c56 : ¬ (at_ s 2 4 < hlen s ∨ s.size < at_ s 2 4) := by omega
  rw [decide_eq_false (by omega)]
  simp only [ipfour_Take.j1, Bool.false_eq_true, if_false]
  have es : octet_Sum.f k (s.extract 0 ((hlen s : Nat) : Int).toNat) = some ((isum (s.data.toList.take (hlen s)) : Nat) : Int) := by
    rw [sum_eq _ (by rw [ByteArray.size_extract]; omega) _ (by rw [ByteArray.size_extract]; omega), extract_list]; simp
  rw [if_pos (by omega), if_pos (by omega), es, Option.bind_some]
  by_cases c7 : isum (s.data.toList.take (hlen s)) = 0
  case neg => rw [if_neg (by omega), take4_err (err4_5 c1 c2 c34 c56 c7) (by decide)]; rfl
  have t6 := itake_eq s 6 2 (by omega) (by omega) k (by omega)
  have t1 := itake_eq s 1 1 (by omega) (by omega) k (by omega)
  have t4 := itake_eq s 4 2 (by omega) (by omega) k (by omega)
  have t8 := itake_eq s 8 1 (by omega) (by omega) k (by omega)
  have t9 := itake_eq s 9 1 (by omega) (by omega) k (by omega)
  simp only [show ((6 : Nat) : Int) = 6 from rfl, show ((2 : Nat) : Int) = 2 from rfl, show ((1 : Nat) : Int) = 1 from rfl, show ((4 : Nat) : Int) = 4 from rfl, show ((8 : Nat) : Int) = 8 from rfl, show ((9 : Nat) : Int) = 9 from rfl, Nat.reduceAdd] at t6 t1 t4 t8 t9
  rw [if_pos (by omega), t6, t1, t4, t8, t9]
  simp only [Option.bind_some]
  have h68 := at_lt s 6 8
  rw [if_pos (by decide), if_pos (by omega), if_pos (by decide), if_pos (by omega), if_pos (by omega), if_pos (by omega), if_pos (by omega), and8191 _ (by omega) (by omega)]
  unfold take4
  rw [if_pos (err4_0 c1 c2 c34 c56 c7)]
  unfold tup h4
  simp
theorem awake_eq (k : Nat) (hk : 200 ≤ k) : rillmeterlaw06_awake.f k = some true := by
  unfold rillmeterlaw06_awake.f
  have := put4_eq ⟨0, 0, 0, 0, 64, 17, ⟨#[10, 0, 0, 1]⟩, ⟨#[10, 0, 0, 2]⟩, ⟨#[]⟩⟩ ⟨#[]⟩ (by decide) (by decide) k hk
  rw [this, Option.bind_some]
  decide +kernel
end Go.Proofs.Ytdmofjhncdkofaa.L06
namespace Go.Proofs.Ytdmofjhncdkofaa.L06
open Go Go.RowKit Go.Proofs.Ytdmofjhncdkofaa.Q Go.Proofs.Ytdmofjhncdkofaa.Base Go.Proofs.Ytdmofjhncdkofaa.L04 Go.Proofs.Ytdmofjhncdkofaa.LAt Go.Proofs.YtdmofjhncdkofaaW.PrintWords Go.Proofs.YtdmofjhncdkofaaW.PrintMore
set_option linter.unusedVariables false
set_option linter.unusedSimpArgs false
theorem take4_ok {s : ByteArray} (h : err4 s = 0) : take4 s = tup (h4 s) (s.extract (hlen s) (at_ s 2 4)) 0 := by unfold take4; rw [if_pos h]
end Go.Proofs.Ytdmofjhncdkofaa.L06
namespace Go.Proofs.Ytdmofjhncdkofaa.L06
open Go Go.RowKit Go.Proofs.Ytdmofjhncdkofaa.Q Go.Proofs.Ytdmofjhncdkofaa.Base Go.Proofs.Ytdmofjhncdkofaa.L04 Go.Proofs.Ytdmofjhncdkofaa.LAt Go.Proofs.YtdmofjhncdkofaaW.PrintWords Go.Proofs.YtdmofjhncdkofaaW.PrintMore
set_option linter.unusedVariables false
set_option linter.unusedSimpArgs false
theorem sum4_le (h : H4) (n : Nat) : sum4 h n ≤ 65535 := isum_le _
theorem wsum_two (p : Bool) (n : Nat) (h : n ≤ 65535) : wsum true (two (n : Int)) = n := by
  unfold two
  rw [Int.toNat_natCast]
  simp only [enc, List.nil_append, List.cons_append, wsum, ofNat_mod]
  omega
theorem mid4 {l a b c : List UInt8} (h : l = a ++ (b ++ c)) (i n : Nat) (hi : a.length = i) (hn : b.length = n) : (l.drop i).take n = b := by
  subst hi hn
  rw [h, List.drop_left, List.take_left]
theorem put4_length {h : H4} (r : right h) (body : ByteArray) : (put4 h body).length = 20 + h.opt.size + body.size := by
  unfold put4
  simp only [List.length_append, head_length, two_length, tail_length r, len]; omega
theorem put4_isum {h : H4} (r : right h) (body : ByteArray) : isum ((put4 h body).take (20 + h.opt.size)) = 0 := by
  have e : (put4 h body).take (20 + h.opt.size) = head h body.size ++ two (sum4 h body.size : Int) ++ tail h := by
    unfold put4
    rw [List.take_append_of_le_length (by simp only [List.length_append, head_length, two_length, tail_length r]; omega), List.take_of_length_le (by simp only [List.length_append, head_length, two_length, tail_length r]; omega)]
  rw [e]
  have hh := head_length h body.size
  have ev : ∀ (x : List UInt8), x.length = 2 → wsum true (head h body.size ++ x ++ tail h) = wsum true (head h body.size) + wsum true x + wsum true (tail h) := by
    intro x hx
    rw [wsum_even _ _ _ (by rw [List.length_append, hh, hx]), wsum_even _ _ _ (by rw [hh])]
  have w2 := wsum_two true (sum4 h body.size) (sum4_le h body.size)
  have s1 := ev (two (sum4 h body.size : Int)) (two_length _)
  have s0 := ev [0, 0] rfl
  have z0 : wsum true ([0, 0] : List UInt8) = 0 := rfl
  have hs : sum4 h body.size = 65535 - fold (wsum true (head h body.size ++ [0, 0] ++ tail h)) := rfl
  have hf := fold_le (wsum true (head h body.size ++ [0, 0] ++ tail h))
  unfold isum
  rw [s1, w2]
  rw [s0, z0] at hs hf
  have e5 := fold_add (wsum true (head h body.size) + 0 + wsum true (tail h)) (sum4 h body.size)
  rw [show fold (wsum true (head h body.size) + 0 + wsum true (tail h)) + sum4 h body.size = 65535 by omega] at e5
  rw [show wsum true (head h body.size) + sum4 h body.size + wsum true (tail h) = wsum true (head h body.size) + 0 + wsum true (tail h) + sum4 h body.size by omega, ← e5]
  rfl
theorem back4 {h : H4} (r : right h) (body : ByteArray) (hb : 20 + h.opt.size + body.size ≤ 65535) :
    err4 (mkB (put4 h body)) = 0 ∧ h4 (mkB (put4 h body)) = h ∧ hlen (mkB (put4 h body)) = 20 + h.opt.size ∧ at_ (mkB (put4 h body)) 2 4 = 20 + h.opt.size + body.size ∧
      (mkB (put4 h body)).extract (20 + h.opt.size) (20 + h.opt.size + body.size) = body := by
  have hL := put4_length r body
  have hI := put4_isum r body
  have hT := tail_length r
  obtain ⟨r1, r2, r3, r4, r5, r6, r7, r8, r9, r10⟩ := r
  obtain ⟨l, hl⟩ : ∃ l, l = put4 h body := ⟨_, rfl⟩
  rw [← hl] at hL hI ⊢
  have ls := len h.src
  have ld := len h.dst
  have lo := len h.opt
  have lb := len body
  have ex : l = one (64 + (20 + (h.opt.size : Int)) / 4) ++ (one h.tos ++ (two (20 + (h.opt.size : Int) + body.size) ++ (two h.id ++ (two (h.flags * 8192 + h.off) ++ (one h.ttl ++ (one h.proto ++ (two (sum4 h body.size : Int) ++
      (h.src.data.toList ++ (h.dst.data.toList ++ (h.opt.data.toList ++ body.data.toList)))))))))) := by
    rw [hl]; unfold put4 head tail; simp only [List.append_assoc]
  have p0 := mid4 (l := l) (a := []) (b := one (64 + (20 + (h.opt.size : Int)) / 4)) (by rw [ex]; simp only [List.append_assoc, List.nil_append]; rfl) 0 1 rfl (one_length _)
  have p1 := mid4 (l := l) (a := one (64 + (20 + (h.opt.size : Int)) / 4)) (b := one h.tos) (by rw [ex]) 1 1 (one_length _) (one_length _)
  have p2 := mid4 (l := l) (a := one (64 + (20 + (h.opt.size : Int)) / 4) ++ one h.tos) (b := two (20 + (h.opt.size : Int) + body.size)) (by rw [ex]; simp only [List.append_assoc]; rfl) 2 2 (by simp only [List.length_append, one_length]) (two_length _)
  have p4 := mid4 (l := l) (a := one (64 + (20 + (h.opt.size : Int)) / 4) ++ one h.tos ++ two (20 + (h.opt.size : Int) + body.size)) (b := two h.id) (by rw [ex]; simp only [List.append_assoc]; rfl) 4 2 (by simp only [List.length_append, one_length, two_length]) (two_length _)
  have p6 := mid4 (l := l) (a := one (64 + (20 + (h.opt.size : Int)) / 4) ++ one h.tos ++ two (20 + (h.opt.size : Int) + body.size) ++ two h.id) (b := two (h.flags * 8192 + h.off)) (by rw [ex]; simp only [List.append_assoc]; rfl) 6 2 (by simp only [List.length_append, one_length, two_length]) (two_length _)
  have p8 := mid4 (l := l) (a := one (64 + (20 + (h.opt.size : Int)) / 4) ++ one h.tos ++ two (20 + (h.opt.size : Int) + body.size) ++ two h.id ++ two (h.flags * 8192 + h.off)) (b := one h.ttl) (by rw [ex]; simp only [List.append_assoc]; rfl) 8 1 (by simp only [List.length_append, one_length, two_length]) (one_length _)
  have p9 := mid4 (l := l) (a := one (64 + (20 + (h.opt.size : Int)) / 4) ++ one h.tos ++ two (20 + (h.opt.size : Int) + body.size) ++ two h.id ++ two (h.flags * 8192 + h.off) ++ one h.ttl) (b := one h.proto) (by rw [ex]; simp only [List.append_assoc]; rfl) 9 1 (by simp only [List.length_append, one_length, two_length]) (one_length _)
  have p12 := mid4 (l := l) (a := one (64 + (20 + (h.opt.size : Int)) / 4) ++ one h.tos ++ two (20 + (h.opt.size : Int) + body.size) ++ two h.id ++ two (h.flags * 8192 + h.off) ++ one h.ttl ++ one h.proto ++ two (sum4 h body.size : Int)) (b := h.src.data.toList) (by rw [ex]; simp only [List.append_assoc]; rfl) 12 4 (by simp only [List.length_append, one_length, two_length]) (by omega)
  have p16 := mid4 (l := l) (a := one (64 + (20 + (h.opt.size : Int)) / 4) ++ one h.tos ++ two (20 + (h.opt.size : Int) + body.size) ++ two h.id ++ two (h.flags * 8192 + h.off) ++ one h.ttl ++ one h.proto ++ two (sum4 h body.size : Int) ++ h.src.data.toList) (b := h.dst.data.toList) (by rw [ex]; simp only [List.append_assoc]; rfl) 16 4 (by simp only [List.length_append, one_length, two_length]; omega) (by omega)
  have p20 := mid4 (l := l) (a := one (64 + (20 + (h.opt.size : Int)) / 4) ++ one h.tos ++ two (20 + (h.opt.size : Int) + body.size) ++ two h.id ++ two (h.flags * 8192 + h.off) ++ one h.ttl ++ one h.proto ++ two (sum4 h body.size : Int) ++ h.src.data.toList ++ h.dst.data.toList) (b := h.opt.data.toList) (c := body.data.toList) (by rw [ex]; simp only [List.append_assoc]) 20 h.opt.size (by simp only [List.length_append, one_length, two_length]; omega) (by omega)
  have pe := mid4 (l := l) (a := one (64 + (20 + (h.opt.size : Int)) / 4) ++ one h.tos ++ two (20 + (h.opt.size : Int) + body.size) ++ two h.id ++ two (h.flags * 8192 + h.off) ++ one h.ttl ++ one h.proto ++ two (sum4 h body.size : Int) ++ h.src.data.toList ++ h.dst.data.toList ++ h.opt.data.toList) (b := body.data.toList) (c := []) (by rw [ex]; simp only [List.append_assoc, List.append_nil]) (20 + h.opt.size) body.size (by simp only [List.length_append, one_length, two_length]; omega) (by omega)
  have b0 : bt (mkB l) 0 = 64 + (20 + (h.opt.size : Int)) / 4 := by
    have := at_one (mkB l) 0 (by rw [mkB_size]; omega)
    rw [show ((0 : Nat) : Int) = 0 from rfl] at this
    rw [← this]
    unfold at_
    rw [mkB_data, p0, num_one (by omega) (by omega)]
  have hlen4 : hlen (mkB l) = 20 + h.opt.size := by unfold hlen; rw [b0]; omega
  have a1 : ((at_ (mkB l) 1 2 : Nat) : Int) = h.tos := by unfold at_; rw [mkB_data]; simp only [Nat.reduceSub]; rw [p1, num_one (by omega) (by omega)]
  have a2 : ((at_ (mkB l) 2 4 : Nat) : Int) = 20 + (h.opt.size : Int) + body.size := by unfold at_; rw [mkB_data]; simp only [Nat.reduceSub]; rw [p2, num_two (by omega) (by omega)]
  have a4 : ((at_ (mkB l) 4 6 : Nat) : Int) = h.id := by unfold at_; rw [mkB_data]; simp only [Nat.reduceSub]; rw [p4, num_two (by omega) (by omega)]
  have a6 : ((at_ (mkB l) 6 8 : Nat) : Int) = h.flags * 8192 + h.off := by unfold at_; rw [mkB_data]; simp only [Nat.reduceSub]; rw [p6, num_two (by omega) (by omega)]
  have a8 : ((at_ (mkB l) 8 9 : Nat) : Int) = h.ttl := by unfold at_; rw [mkB_data]; simp only [Nat.reduceSub]; rw [p8, num_one (by omega) (by omega)]
  have a9 : ((at_ (mkB l) 9 10 : Nat) : Int) = h.proto := by unfold at_; rw [mkB_data]; simp only [Nat.reduceSub]; rw [p9, num_one (by omega) (by omega)]
  have x12 : (mkB l).extract 12 16 = h.src := by rw [mkB_extract]; simp only [Nat.reduceSub]; rw [p12, mkB_eta]
  have x16 : (mkB l).extract 16 20 = h.dst := by rw [mkB_extract]; simp only [Nat.reduceSub]; rw [p16, mkB_eta]
  have x20 : (mkB l).extract 20 (20 + h.opt.size) = h.opt := by rw [mkB_extract, show 20 + h.opt.size - 20 = h.opt.size by omega, p20, mkB_eta]
  have xe : (mkB l).extract (20 + h.opt.size) (20 + h.opt.size + body.size) = body := by rw [mkB_extract, show 20 + h.opt.size + body.size - (20 + h.opt.size) = body.size by omega, pe, mkB_eta]
  have hz : (mkB l).size = 20 + h.opt.size + body.size := by rw [mkB_size, hL]
  refine ⟨err4_0 (by omega) (by rw [b0]; omega) (by rw [hlen4, hz]; omega) (by rw [hlen4, hz]; omega) (by rw [hlen4, mkB_data]; exact hI), ?_, hlen4, by omega, xe⟩
  unfold h4
  rw [hlen4, a1, a4, a8, a9, x12, x16, x20, show ((at_ (mkB l) 6 8 / 8192 : Nat) : Int) = h.flags by omega, show ((at_ (mkB l) 6 8 % 8192 : Nat) : Int) = h.off by omega]
end Go.Proofs.Ytdmofjhncdkofaa.L06
