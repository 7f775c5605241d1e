/- What the printed functions of layer 4 answer, told by plain functions on bytes. -/
import Derived.Test.YthkehnnnpohpcaaBase
import Derived.Test.YthkehnnnpohpcaaQx1
import Derived.Test.YthkehnnnpohpcaaQx4
import Derived.Test.YthkehnnnpohpcaaQx5
import Derived.Test.YthkehnnnpohpcaaQx6
import Derived.Test.YthkehnnnpohpcaaQx9
import Derived.Test.YthkehnnnpohpcaaQx11
import Derived.Test.YthkehnnnpohpcaaQx2
import Derived.Test.YthkehnnnpohpcaaQx3
import Derived.Test.YthkehnnnpohpcaaQx7
namespace Go.Proofs.Ythkehnnnpohpcaa.L04
open Go Go.RowKit Go.Proofs.Ythkehnnnpohpcaa.Q Go.Proofs.Ythkehnnnpohpcaa.Base Go.Proofs.YthkehnnnpohpcaaW.PrintWords Go.Proofs.YthkehnnnpohpcaaW.PrintMore
set_option linter.unusedVariables false
set_option linter.unusedSimpArgs false

/-! ### Cut -/
def cutS (s : ByteArray) (b : Int) : ByteArray × ByteArray × Int :=
  if b < 0 then (mkB [], mkB [], 1) else if (s.size : Int) < b then (mkB [], mkB [], 2) else (s.extract 0 b.toNat, s.extract b.toNat s.size, 0)
theorem cut_eq (s : ByteArray) (b : Int) : octet_Cut.f s b = some (cutS s b) := by
  unfold octet_Cut.f cutS
  by_cases h : b < 0
  · rw [if_pos h, if_pos h]; rfl
  · rw [if_neg h, if_neg h]
    by_cases h1 : (s.size : Int) < b
    · rw [if_pos h1, if_pos h1]; rfl
    · rw [if_neg h1, if_neg h1, if_pos (by omega), if_pos (by omega)]

/-! ### Take -/
theorem take_loop (s rest : ByteArray) (hs : s.size ≤ 7) (d : Nat) : ∀ (k : Nat) (i n : Nat), i + d = s.size → n = num (s.data.toList.take i) → d < k →
    octet_Take.l0 k s rest (n : Int) (s.size : Int) (i : Int) = some ((num s.data.toList : Int), rest, 0) := by
  induction d with
  | zero =>
    intro k i n hi hn hk
    obtain ⟨k, rfl⟩ : ∃ m, k = m + 1 := ⟨k - 1, by omega⟩
    simp only [octet_Take.l0]
    rw [if_neg (by omega), hn, List.take_of_length_le (by rw [len]; omega)]
  | succ d ih =>
    intro k i n hi hn hk
    obtain ⟨k, rfl⟩ : ∃ m, k = m + 1 := ⟨k - 1, by omega⟩
    have hlt : i < s.data.toList.length := by rw [len]; omega
    have hb : bt s (i : Int) = ((s.data.toList[i]).toNat : Int) := bt_get s i hlt
    have hbl : (s.data.toList[i]).toNat < 256 := UInt8.toNat_lt _
    have hnl : n < 256 ^ 6 := by
      rw [hn]
      refine Nat.lt_of_lt_of_le (num_lt _) (Nat.pow_le_pow_right (by omega) ?_)
      rw [List.length_take]; omega
    have hstep : num (s.data.toList.take (i + 1)) = n * 256 + (s.data.toList[i]).toNat := by
      rw [List.take_succ_eq_append_getElem hlt, num_snoc, hn]
    simp only [octet_Take.l0]
    rw [if_pos (by omega), if_pos (by omega), if_pos (by omega)]
    have e1 : Go.bits .or .i64 (wrap64 ((n : Int) * 256)) (wrap64 (bt s (i : Int))) = ((num (s.data.toList.take (i + 1)) : Nat) : Int) := by
      rw [w64 (by omega) (by omega), hb, w64 (by omega) (by omega), or_join _ _ (by omega) (by omega) (by omega) (by omega), hstep]
      omega
    have e2 : wrap64 ((i : Int) + 1) = ((i + 1 : Nat) : Int) := by rw [w64 (by omega) (by omega)]; omega
    rw [e1, e2]
    exact ih k (i + 1) _ (by omega) rfl (by omega)
def takeS (s : ByteArray) (b : Int) : Int × ByteArray × Int :=
  if b < 1 ∨ 7 < b then (0, mkB [], 1) else if (s.size : Int) < b then (0, mkB [], 2)
  else ((num (s.data.toList.take b.toNat) : Int), s.extract b.toNat s.size, 0)
theorem take_eq (s : ByteArray) (b : Int) (k : Nat) (hk : 10 ≤ k) : octet_Take.f k s b = some (takeS s b) := by
  obtain ⟨k, rfl⟩ : ∃ m, k = m + 1 := ⟨k - 1, by omega⟩
  unfold octet_Take.f takeS
  by_cases h : b < 1
  · rw [if_pos h, if_pos (.inl h)]; simp only [octet_Take.j0, if_true]; rfl
  · rw [if_neg h]
    by_cases h7 : b > 7
    · rw [if_pos (.inr h7), decide_eq_true h7]; simp only [octet_Take.j0, if_true]; rfl
    · have h8 : ¬ (b < 1 ∨ 7 < b) := by omega
      have h9 : ¬ b < 0 := by omega
      rw [if_neg h8, decide_eq_false h7]; simp only [octet_Take.j0, Bool.false_eq_true, if_false]; rw [cut_eq]
      unfold cutS
      rw [if_neg h9]
      by_cases h1 : (s.size : Int) < b
      · rw [if_pos h1, if_pos h1]; rfl
      · rw [if_neg h1, if_neg h1]; simp only [Option.bind_some, if_true]
        have hz : (s.extract 0 b.toNat).size = b.toNat := by rw [ByteArray.size_extract]; omega
        have := take_loop (s.extract 0 b.toNat) (s.extract b.toNat s.size) (by omega) b.toNat k 0 0 (by omega) (by simp [num]) (by omega)
        rw [hz] at this ⊢
        rw [show ((0 : Nat) : Int) = 0 from rfl] at this
        rw [this]
        have e : (s.extract 0 b.toNat).data.toList = s.data.toList.take b.toNat := by
          have := mkB_extract s.data.toList 0 b.toNat
          rw [mkB_eta] at this
          rw [this, mkB_data]; simp
        rw [e]

/-! ### Number -/
theorem number_loop (s : ByteArray) (hs : s.size ≤ 7) (d : Nat) : ∀ (k : Nat) (i n : Nat), i + d = s.size → n = num (s.data.toList.take i) → d < k →
    rillmeterref04_Number.l0 k s (n : Int) (i : Int) = some ((num s.data.toList : Int)) := by
  induction d with
  | zero =>
    intro k i n hi hn hk
    obtain ⟨k, rfl⟩ : ∃ m, k = m + 1 := ⟨k - 1, by omega⟩
    simp only [rillmeterref04_Number.l0]
    rw [if_neg (by omega), hn, List.take_of_length_le (by rw [len]; omega)]
  | succ d ih =>
    intro k i n hi hn hk
    obtain ⟨k, rfl⟩ : ∃ m, k = m + 1 := ⟨k - 1, by omega⟩
    have hlt : i < s.data.toList.length := by rw [len]; omega
    have hb : bt s (i : Int) = ((s.data.toList[i]).toNat : Int) := bt_get s i hlt
    have hbl : (s.data.toList[i]).toNat < 256 := UInt8.toNat_lt _
    have hnl : n < 256 ^ 6 := by
      rw [hn]
      refine Nat.lt_of_lt_of_le (num_lt _) (Nat.pow_le_pow_right (by omega) ?_)
      rw [List.length_take]; omega
    have hstep : num (s.data.toList.take (i + 1)) = n * 256 + (s.data.toList[i]).toNat := by
      rw [List.take_succ_eq_append_getElem hlt, num_snoc, hn]
    simp only [rillmeterref04_Number.l0]
    rw [if_pos (by omega), if_pos (by omega)]
    have e1 : wrap64 (wrap64 (256 * (n : Int)) + wrap64 (bt s (i : Int))) = ((num (s.data.toList.take (i + 1)) : Nat) : Int) := by
      rw [hb, w64 (n := 256 * (n : Int)) (by omega) (by omega), w64 (n := (((s.data.toList[i]).toNat : Nat) : Int)) (by omega) (by omega), w64 (by omega) (by omega), hstep]
      omega
    have e2 : wrap64 ((i : Int) + 1) = ((i + 1 : Nat) : Int) := by rw [w64 (by omega) (by omega)]; omega
    rw [e1, e2]
    exact ih k (i + 1) _ (by omega) rfl (by omega)
theorem number_eq (s : ByteArray) (hs : s.size ≤ 7) (k : Nat) (hk : 10 ≤ k) : rillmeterref04_Number.f k s = some ((num s.data.toList : Int)) := by
  unfold rillmeterref04_Number.f
  exact number_loop s hs s.size k 0 0 (by omega) (by simp [num]) (by omega)

/-! ### Put -/
theorem shr_at (a y : Int) (h0 : 0 ≤ y) (h1 : y ≤ 64) : shr .i64 a y = a / 2 ^ y.toNat := by
  unfold shr
  rw [Nat.min_eq_left (by show y.toNat ≤ 64; omega)]
/-- The digits of a number, from the i-th on. -/
def digs (n b : Nat) : Nat → Nat → List Nat
  | _, 0 => []
  | i, d + 1 => (n / 2 ^ (8 * (b - 1 - i)) % 256) :: digs n b (i + 1) d
theorem put_loop (a : Nat) (b : Nat) (hb : b ≤ 7) (d : Nat) : ∀ (k : Nat) (i : Nat) (xs : List Int), i + d = b → xs.length = b → d < k →
    octet_Put.l0 k (a : Int) (b : Int) xs (b : Int) (i : Int) = some (strOfNums (xs.take i ++ (digs a b i d).map fun n : Nat => (n : Int)), 0) := by
  induction d with
  | zero =>
    intro k i xs hi hx hk
    obtain ⟨k, rfl⟩ : ∃ m, k = m + 1 := ⟨k - 1, by omega⟩
    simp only [octet_Put.l0]
    rw [if_neg (by omega)]
    simp [digs, List.take_of_length_le (show xs.length ≤ i by omega)]
  | succ d ih =>
    intro k i xs hi hx hk
    obtain ⟨k, rfl⟩ : ∃ m, k = m + 1 := ⟨k - 1, by omega⟩
    simp only [octet_Put.l0]
    have e0 : wrap64 (8 * wrap64 (wrap64 ((b : Int) - 1) - (i : Int))) = ((8 * (b - 1 - i) : Nat) : Int) := by
      rw [w64 (n := (b : Int) - 1) (by omega) (by omega), w64 (n := (b : Int) - 1 - i) (by omega) (by omega), w64 (by omega) (by omega)]
      omega
    rw [e0, if_pos (by omega), if_pos (by omega), if_pos (by omega), if_pos (by omega), shr_at _ _ (by omega) (by omega)]
    have e2 : wrap64 ((i : Int) + 1) = ((i + 1 : Nat) : Int) := by rw [w64 (by omega) (by omega)]; omega
    rw [e2, ih k (i + 1) _ (by omega) (by simp [hx]) (by omega)]
    have e3 : ((a : Int) / 2 ^ ((8 * (b - 1 - i) : Nat) : Int).toNat % 256) = ((a / 2 ^ (8 * (b - 1 - i)) % 256 : Nat) : Int) := by
      rw [Int.toNat_natCast]; simp
    have e4 : ((i : Int)).toNat = i := by omega
    rw [e3, e4]
    congr 3
    rw [List.take_succ_eq_append_getElem (by simp; omega), List.getElem_set_self, List.take_set_of_le (Nat.le_refl _)]
    simp [digs]
theorem digs_enc (n b : Nat) (hb : b ≤ 7) : strOfNums ((digs n b 0 b).map fun n : Nat => (n : Int)) = mkB (enc n b) := by
  rw [nums_nat]
  congr 1
  have h : b = 0 ∨ b = 1 ∨ b = 2 ∨ b = 3 ∨ b = 4 ∨ b = 5 ∨ b = 6 ∨ b = 7 := by omega
  have key : ∀ m : Nat, (UInt8.ofNat (m % 256) = UInt8.ofNat m) := by
    intro m; apply UInt8.toNat_inj.1; simp
  rcases h with rfl | rfl | rfl | rfl | rfl | rfl | rfl | rfl <;> simp [digs, enc, Nat.div_div_eq_div_mul, key]
def putS (a b : Int) : ByteArray × Int :=
  if b < 1 ∨ 7 < b ∨ a < 0 ∨ (256 ^ b.toNat : Int) ≤ a then (mkB [], 1) else (mkB (enc a.toNat b.toNat), 0)
theorem pow8 (b : Nat) : (2 : Int) ^ (8 * b) = 256 ^ b := by
  rw [Int.pow_mul]; rfl
theorem put_eq (a b : Int) (k : Nat) (hk : 12 ≤ k) : octet_Put.f k a b = some (putS a b) := by
  obtain ⟨k, rfl⟩ : ∃ m, k = m + 1 := ⟨k - 1, by omega⟩
  unfold octet_Put.f putS
  by_cases h1 : b < 1
  · rw [if_pos h1, if_pos (.inl h1)]; simp only [octet_Put.j0, if_true]; rfl
  rw [if_neg h1]
  by_cases h7 : b > 7
  · rw [if_pos h7, if_pos (.inr (.inl h7))]; simp only [octet_Put.j0, if_true]; rfl
  rw [if_neg h7]
  by_cases h0 : a < 0
  · rw [if_pos h0, if_pos (.inr (.inr (.inl h0)))]; simp only [octet_Put.j0, if_true]; rfl
  rw [if_neg h0]
  obtain ⟨B, rfl⟩ := Int.eq_ofNat_of_zero_le (show 0 ≤ b by omega)
  obtain ⟨n, rfl⟩ := Int.eq_ofNat_of_zero_le (show 0 ≤ a by omega)
  have e0 : wrap64 (8 * (B : Int)) = ((8 * B : Nat) : Int) := by rw [w64 (by omega) (by omega)]; omega
  rw [e0, if_pos (by omega), shr_at _ _ (by omega) (by omega)]
  have e1 : (2 : Int) ^ ((8 * B : Nat) : Int).toNat = 256 ^ B := by rw [← pow8]; rfl
  have e2 : ((B : Int)).toNat = B := rfl
  have hp : (0 : Int) < 256 ^ B := Int.pow_pos (by omega)
  rw [e1, e2]
  by_cases hg : (256 ^ B : Int) ≤ (n : Int)
  · rw [if_pos (.inr (.inr (.inr hg)))]
    simp only [octet_Put.j0]
    have : (n : Int) / 256 ^ B ≠ 0 := by
      intro h
      have h2 := Int.mul_ediv_add_emod (n : Int) (256 ^ B)
      have h3 := Int.emod_lt_of_pos (n : Int) hp
      rw [h, Int.mul_zero] at h2
      omega
    rw [if_pos (by simpa using this)]; rfl
  · rw [if_neg (by omega)]
    simp only [octet_Put.j0]
    have hz : (n : Int) / 256 ^ B = 0 := Int.ediv_eq_zero_of_lt (by omega) (by omega)
    rw [hz, if_neg (by simp), if_pos (by omega), if_pos (by omega)]
    simp only [Option.bind_some, List.length_replicate, e2]
    have := put_loop n B (by omega) B k 0 (List.replicate B 0) (by omega) (by simp) (by omega)
    rw [show ((0 : Nat) : Int) = 0 from rfl] at this
    rw [this, List.take_zero, List.nil_append, digs_enc n B (by omega)]
    rfl

/-! ### the reference's Put -/
theorem power_loop (b : Nat) (hb : b ≤ 7) (d : Nat) : ∀ (k i : Nat), i + d = b → d < k → rillmeterref04_power.l0 k (b : Int) ((256 ^ i : Nat) : Int) (i : Int) = some ((256 ^ b : Nat) : Int) := by
  induction d with
  | zero =>
    intro k i hi hk
    obtain ⟨k, rfl⟩ : ∃ m, k = m + 1 := ⟨k - 1, by omega⟩
    obtain rfl : i = b := by omega
    simp only [rillmeterref04_power.l0]
    rw [if_neg (by omega)]
  | succ d ih =>
    intro k i hi hk
    obtain ⟨k, rfl⟩ : ∃ m, k = m + 1 := ⟨k - 1, by omega⟩
    simp only [rillmeterref04_power.l0]
    have hp : 256 ^ i ≤ 256 ^ 6 := Nat.pow_le_pow_right (by omega) (by omega)
    have e : wrap64 (((256 ^ i : Nat) : Int) * 256) = ((256 ^ (i + 1) : Nat) : Int) := by
      rw [Nat.pow_succ]
      generalize 256 ^ i = g at hp
      rw [w64 (by omega) (by omega)]; omega
    have e2 : wrap64 ((i : Int) + 1) = ((i + 1 : Nat) : Int) := by rw [w64 (by omega) (by omega)]; omega
    rw [if_pos (by omega), e, e2]
    exact ih k (i + 1) (by omega) (by omega)
theorem refput_loop (b : Nat) (hb : b ≤ 7) (d : Nat) : ∀ (k i n : Nat) (l : List UInt8), i + d = b → l.length = i → d < k → n < 2 ^ 63 →
    rillmeterref04_Put.l0 k (n : Int) (b : Int) (mkB l) (i : Int) = some (mkB (enc n d ++ l), true) := by
  induction d with
  | zero =>
    intro k i n l hi hl hk hn
    obtain ⟨k, rfl⟩ : ∃ m, k = m + 1 := ⟨k - 1, by omega⟩
    simp only [rillmeterref04_Put.l0]
    rw [if_neg (by omega)]
    simp [enc]
  | succ d ih =>
    intro k i n l hi hl hk hn
    obtain ⟨k, rfl⟩ : ∃ m, k = m + 1 := ⟨k - 1, by omega⟩
    simp only [rillmeterref04_Put.l0]
    rw [if_pos (by omega)]
    simp only [Option.bind_some]
    have e0 : strOfNums [Int.tmod (n : Int) 256 % 256] = mkB [UInt8.ofNat n] := by
      have e : Int.tmod (n : Int) 256 % 256 = ((n % 256 : Nat) : Int) := by rw [Int.tmod_eq_emod_of_nonneg (by omega)]; omega
      rw [e]
      show mkB [UInt8.ofNat (((n % 256 : Nat) : Int)).toNat] = _
      rw [Int.toNat_natCast]
      congr 2
      apply UInt8.toNat_inj.1
      simp
    have e1 : wrap64 (Int.tdiv (n : Int) 256) = ((n / 256 : Nat) : Int) := by
      rw [Int.tdiv_eq_ediv_of_nonneg (by omega), w64 (by omega) (by omega)]; omega
    have e2 : wrap64 ((i : Int) + 1) = ((i + 1 : Nat) : Int) := by rw [w64 (by omega) (by omega)]; omega
    rw [e0, e1, e2, mkB_app, if_pos (by simp [mkB_size]; omega), ih k (i + 1) _ _ (by omega) (by simp; omega) (by omega) (by omega)]
    simp [enc]
theorem refput_eq (a b : Int) (ha : a ≤ 9223372036854775807) (k : Nat) (hk : 12 ≤ k) :
    rillmeterref04_Put.f k a b = some ((putS a b).1, decide ((putS a b).2 = 0)) := by
  obtain ⟨k, rfl⟩ : ∃ m, k = m + 1 := ⟨k - 1, by omega⟩
  unfold rillmeterref04_Put.f putS
  by_cases h1 : b < 1
  · rw [if_pos h1, if_pos (.inl h1)]; simp only [rillmeterref04_Put.j0, if_true]; rfl
  rw [if_neg h1]
  by_cases h7 : b > 7
  · rw [if_pos h7, if_pos (.inr (.inl h7))]; simp only [rillmeterref04_Put.j0, if_true]; rfl
  rw [if_neg h7]
  by_cases h0 : a < 0
  · rw [if_pos h0, if_pos (.inr (.inr (.inl h0)))]; simp only [rillmeterref04_Put.j0, if_true]; rfl
  rw [if_neg h0]
  obtain ⟨B, rfl⟩ := Int.eq_ofNat_of_zero_le (show 0 ≤ b by omega)
  obtain ⟨n, rfl⟩ := Int.eq_ofNat_of_zero_le (show 0 ≤ a by omega)
  have hpw := power_loop B (by omega) B (k + 1) 0 (by omega) (by omega)
  rw [show ((0 : Nat) : Int) = 0 from rfl, show ((256 ^ 0 : Nat) : Int) = 1 from rfl] at hpw
  unfold rillmeterref04_power.f
  rw [hpw]
  simp only [Option.bind_some, rillmeterref04_Put.j0]
  have ec : ((256 ^ B : Nat) : Int) = (256 : Int) ^ B := by simp
  have e2 : ((B : Int)).toNat = B := rfl
  have e3 : ((n : Int)).toNat = n := rfl
  rw [ec, e2, e3]
  by_cases hg : (256 ^ B : Int) ≤ (n : Int)
  · rw [if_pos (by simpa using hg), if_pos (.inr (.inr (.inr hg)))]; rfl
  · rw [if_neg (by simpa using hg), if_neg (by omega)]
    have := refput_loop B (by omega) B k 0 n [] (by omega) rfl (by omega) (by omega)
    rw [show ((0 : Nat) : Int) = 0 from rfl] at this
    rw [show ((⟨#[]⟩ : ByteArray)) = mkB [] from rfl, this]
    simp

/-! ### the sum -/
theorem sum_tail (n : Nat) (hn : n < 4294901760) (k : Nat) (hk : 4 ≤ k) : octet_Sum.l1 k (n : Int) = some ((65535 - fold n : Nat) : Int) := by
  have last : ∀ (k m : Nat), m ≤ 65535 → 1 ≤ k → octet_Sum.l1 k (m : Int) = some ((65535 - fold m : Nat) : Int) := by
    intro k m hm hk
    obtain ⟨k, rfl⟩ : ∃ m, k = m + 1 := ⟨k - 1, by omega⟩
    simp only [octet_Sum.l1]
    rw [if_neg (by omega), i64_xor _ (by omega) (by omega), fold_small hm]
    congr 1; omega
  have step : ∀ (k m : Nat), 65535 < m → m < 9223372036854775807 → octet_Sum.l1 (k + 1) (m : Int) = octet_Sum.l1 k ((m % 65536 + m / 65536 : Nat) : Int) := by
    intro k m hm h
    simp only [octet_Sum.l1]
    rw [if_pos (by omega), and_low _ (by omega) (by omega), w64 (by omega) (by omega)]
    congr 1
  by_cases h1 : n ≤ 65535
  · exact last k n h1 (by omega)
  obtain ⟨k, rfl⟩ : ∃ m, k = m + 1 := ⟨k - 1, by omega⟩
  rw [step k n (by omega) (by omega), ← fold_step n (by omega)]
  by_cases h2 : n % 65536 + n / 65536 ≤ 65535
  · exact last k _ h2 (by omega)
  obtain ⟨k, rfl⟩ : ∃ m, k = m + 1 := ⟨k - 1, by omega⟩
  rw [step k _ (by omega) (by omega), ← fold_step (n % 65536 + n / 65536) (by omega)]
  exact last k _ (by omega) (by omega)
theorem sum_loop (s : ByteArray) (hs : s.size ≤ 65535) (d : Nat) : ∀ (k i acc : Nat), i + d = s.size → acc ≤ 65280 * i → d + 5 ≤ k →
    octet_Sum.l0 k s (acc : Int) (s.size : Int) (i : Int) = some ((65535 - fold (acc + wsum (decide (i % 2 = 0)) (s.data.toList.drop i)) : Nat) : Int) := by
  induction d with
  | zero =>
    intro k i acc hi ha hk
    obtain ⟨k, rfl⟩ : ∃ m, k = m + 1 := ⟨k - 1, by omega⟩
    simp only [octet_Sum.l0]
    rw [if_neg (by omega), sum_tail acc (by omega) k (by omega), List.drop_eq_nil_of_le (by rw [len]; omega)]
    cases decide (i % 2 = 0) <;> simp [wsum]
  | succ d ih =>
    intro k i acc hi ha hk
    obtain ⟨k, rfl⟩ : ∃ m, k = m + 1 := ⟨k - 1, by omega⟩
    have hlt : i < s.data.toList.length := by rw [len]; omega
    have hb : bt s (i : Int) = ((s.data.toList[i]).toNat : Int) := bt_get s i hlt
    have hbl : (s.data.toList[i]).toNat < 256 := UInt8.toNat_lt _
    simp only [octet_Sum.l0]
    rw [if_pos (by omega), if_pos (by omega), if_pos (by omega), and_one _ (by omega) (by omega)]
    have e2 : wrap64 ((i : Int) + 1) = ((i + 1 : Nat) : Int) := by rw [w64 (by omega) (by omega)]; omega
    rw [List.drop_eq_getElem_cons hlt, hb, e2]
    by_cases hp : i % 2 = 0
    · have e3 : wrap64 (8 * wrap64 (1 - (i : Int) % 2)) = 8 := by rw [show (i : Int) % 2 = 0 by omega]; unfold wrap64; omega
      have e4 : shl .i64 (wrap64 (((s.data.toList[i]).toNat : Nat) : Int)) 8 = ((256 * (s.data.toList[i]).toNat : Nat) : Int) := by
        rw [shl_8 _ (by omega) (by omega)]; omega
      rw [e3, if_pos (by decide), e4]
      clear e3 e4
      rw [w64 (by omega) (by omega)]
      have := ih k (i + 1) (acc + 256 * (s.data.toList[i]).toNat) (by omega) (by omega) (by omega)
      rw [show ((acc : Int) + ((256 * (s.data.toList[i]).toNat : Nat) : Int)) = ((acc + 256 * (s.data.toList[i]).toNat : Nat) : Int) by omega, this]
      rw [show decide (i % 2 = 0) = true by simpa using hp, show decide ((i + 1) % 2 = 0) = false by simp; omega]
      simp only [wsum]
      rw [← Nat.add_assoc]
    · have e3 : wrap64 (8 * wrap64 (1 - (i : Int) % 2)) = 0 := by rw [show (i : Int) % 2 = 1 by omega]; unfold wrap64; omega
      have e4 : shl .i64 (wrap64 (((s.data.toList[i]).toNat : Nat) : Int)) 0 = (((s.data.toList[i]).toNat : Nat) : Int) :=
        shl_0 _ (by omega) (by omega)
      rw [e3, if_pos (by decide), e4]
      clear e3 e4
      rw [w64 (by omega) (by omega)]
      have := ih k (i + 1) (acc + (s.data.toList[i]).toNat) (by omega) (by omega) (by omega)
      rw [show ((acc : Int) + (((s.data.toList[i]).toNat : Nat) : Int)) = ((acc + (s.data.toList[i]).toNat : Nat) : Int) by omega, this]
      rw [show decide (i % 2 = 0) = false by simpa using hp, show decide ((i + 1) % 2 = 0) = true by simp; omega]
      simp only [wsum]
      rw [← Nat.add_assoc]
theorem sum_eq (s : ByteArray) (hs : s.size ≤ 65535) (k : Nat) (hk : s.size + 5 ≤ k) : octet_Sum.f k s = some ((isum s.data.toList : Int)) := by
  unfold octet_Sum.f
  have := sum_loop s hs s.size k 0 0 (by omega) (by omega) hk
  rw [show ((0 : Nat) : Int) = 0 from rfl] at this
  rw [this]
  simp [isum]
theorem refsum_loop (s : ByteArray) (hs : s.size ≤ 65535) (d : Nat) : ∀ (k i acc : Nat), s.size ≤ i + d → i ≤ s.size + 1 → i % 2 = 0 → acc ≤ 65535 → d < k →
    rillmeterref04_Sum.l0 k s (acc : Int) (i : Int) = some ((65535 - fold (acc + wsum true (s.data.toList.drop i)) : Nat) : Int) := by
  induction d using Nat.strongRecOn with
  | ind d ih =>
    intro k i acc hi hi2 hp ha hk
    obtain ⟨k, rfl⟩ : ∃ m, k = m + 1 := ⟨k - 1, by omega⟩
    simp only [rillmeterref04_Sum.l0]
    by_cases hlt0 : i < s.size
    · have hlt : i < s.data.toList.length := by rw [len]; omega
      have hb : bt s (i : Int) = ((s.data.toList[i]).toNat : Int) := bt_get s i hlt
      have hbl : (s.data.toList[i]).toNat < 256 := UInt8.toNat_lt _
      have e2 : wrap64 ((i : Int) + 1) = ((i + 1 : Nat) : Int) := by rw [w64 (by omega) (by omega)]; omega
      have e5 : wrap64 ((i : Int) + 2) = ((i + 2 : Nat) : Int) := by rw [w64 (by omega) (by omega)]; omega
      rw [if_pos (by omega), if_pos (by omega), e2, e5, List.drop_eq_getElem_cons hlt, hb]
      have fin : ∀ m : Nat, m ≤ 65535 → ∀ r, (if ((acc + m : Nat) : Int) > 65535 then rillmeterref04_Sum.l0 k s (wrap64 (((acc + m : Nat) : Int) - 65535)) ((i + 2 : Nat) : Int) else rillmeterref04_Sum.l0 k s ((acc + m : Nat) : Int) ((i + 2 : Nat) : Int)) = some r →
          r = ((65535 - fold (acc + m + wsum true (s.data.toList.drop (i + 2))) : Nat) : Int) → True := fun _ _ _ _ _ => trivial
      have fin : ∀ m : Nat, m ≤ 65535 → (if ((acc + m : Nat) : Int) > 65535 then rillmeterref04_Sum.l0 k s (wrap64 (((acc + m : Nat) : Int) - 65535)) ((i + 2 : Nat) : Int) else rillmeterref04_Sum.l0 k s ((acc + m : Nat) : Int) ((i + 2 : Nat) : Int)) = some ((65535 - fold (acc + m + wsum true (s.data.toList.drop (i + 2))) : Nat) : Int) := by
        intro m hm
        by_cases ho : acc + m > 65535
        · rw [if_pos (by omega), w64 (by omega) (by omega)]
          rw [show ((acc + m : Nat) : Int) - 65535 = ((acc + m - 65535 : Nat) : Int) by omega]
          rw [ih (d - 2) (by omega) k (i + 2) _ (by omega) (by omega) (by omega) (by omega) (by omega)]
          rw [← fold_add (acc + m), fold_over (a := acc + m) (by omega) (by omega)]
        · rw [if_neg (by omega)]
          exact ih (d - 2) (by omega) k (i + 2) _ (by omega) (by omega) (by omega) (by omega) (by omega)
      by_cases hn : i + 1 < s.size
      · have hlt1 : i + 1 < s.data.toList.length := by rw [len]; omega
        have hb1 : bt s ((i + 1 : Nat) : Int) = ((s.data.toList[i + 1]).toNat : Int) := bt_get s (i + 1) hlt1
        have hbl1 : (s.data.toList[i + 1]).toNat < 256 := UInt8.toNat_lt _
        rw [if_pos (by omega), if_pos (by omega), hb1, List.drop_eq_getElem_cons hlt1]
        have e6 : wrap64 ((acc : Int) + wrap64 (wrap64 (256 * wrap64 (((s.data.toList[i]).toNat : Nat) : Int)) + wrap64 (((s.data.toList[i + 1]).toNat : Nat) : Int))) = ((acc + (256 * (s.data.toList[i]).toNat + (s.data.toList[i + 1]).toNat) : Nat) : Int) := by
          rw [w64 (n := (((s.data.toList[i]).toNat : Nat) : Int)) (by omega) (by omega), w64 (n := (((s.data.toList[i + 1]).toNat : Nat) : Int)) (by omega) (by omega), w64 (n := 256 * (((s.data.toList[i]).toNat : Nat) : Int)) (by omega) (by omega)]
          rw [w64 (n := 256 * (((s.data.toList[i]).toNat : Nat) : Int) + _) (by omega) (by omega), w64 (by omega) (by omega)]
          omega
        rw [e6, fin _ (by omega)]
        simp only [wsum]
        rw [Nat.add_assoc, Nat.add_assoc]
      · rw [if_neg (by omega)]
        have e6 : wrap64 ((acc : Int) + wrap64 (256 * wrap64 (((s.data.toList[i]).toNat : Nat) : Int))) = ((acc + 256 * (s.data.toList[i]).toNat : Nat) : Int) := by
          rw [w64 (n := (((s.data.toList[i]).toNat : Nat) : Int)) (by omega) (by omega), w64 (n := 256 * (((s.data.toList[i]).toNat : Nat) : Int)) (by omega) (by omega), w64 (by omega) (by omega)]
          omega
        rw [e6, fin _ (by omega)]
        rw [List.drop_eq_nil_of_le (show s.data.toList.length ≤ i + 1 by rw [len]; omega), List.drop_eq_nil_of_le (show s.data.toList.length ≤ i + 2 by rw [len]; omega)]
        simp only [wsum]
        congr 3
    · rw [if_neg (by omega), w64 (by omega) (by omega), List.drop_eq_nil_of_le (by rw [len]; omega)]
      simp only [wsum, Nat.add_zero]
      rw [fold_small ha]
      congr 1; omega
theorem refsum_eq (s : ByteArray) (hs : s.size ≤ 65535) (k : Nat) (hk : s.size + 5 ≤ k) : rillmeterref04_Sum.f k s = some ((isum s.data.toList : Int)) := by
  unfold rillmeterref04_Sum.f
  have := refsum_loop s hs s.size k 0 0 (by omega) (by omega) (by omega) (by omega) (by omega)
  rw [show ((0 : Nat) : Int) = 0 from rfl] at this
  rw [this]
  simp [isum]

/-! ### the fixed answer -/
theorem awake_eq (k : Nat) (hk : 20 ≤ k) : rillmeterlaw04_awake.f k = some true := by
  unfold rillmeterlaw04_awake.f
  rw [put_eq _ _ k (by omega), take_eq _ _ k (by omega), sum_eq _ (by decide) k (by show 2 + 5 ≤ k; omega)]
  decide +kernel
end Go.Proofs.Ythkehnnnpohpcaa.L04
