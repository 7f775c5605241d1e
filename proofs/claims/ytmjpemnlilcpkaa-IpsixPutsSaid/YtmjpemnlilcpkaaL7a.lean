/- What the printed functions answer, told by plain functions on bytes: octet.Cut and octet.Take. What the printed functions answer, told by plain functions on bytes: octet.Put. Numbers and pieces at places of a text; two bytes of a number. -/
import Derived.Test.YtmjpemnlilcpkaaBase
import Derived.Test.YtmjpemnlilcpkaaQx2
import Derived.Test.YtmjpemnlilcpkaaQx3
import Derived.Test.YtmjpemnlilcpkaaQx10
namespace Go.Proofs.Ytmjpemnlilcpkaa.L04
open Go Go.RowKit Go.Proofs.Ytmjpemnlilcpkaa.Q Go.Proofs.Ytmjpemnlilcpkaa.Base Go.Proofs.YtmjpemnlilcpkaaW.PrintWords Go.Proofs.YtmjpemnlilcpkaaW.PrintMore
set_option linter.unusedVariables false
set_option linter.unusedSimpArgs false

/-! ### Cut -/
def cutS (s : ByteArray) (b : Int) : ByteArray × ByteArray × Int :=
  if b < 0 then (mkB [], mkB [], 1) else if (s.size : Int) < b then (mkB [], mkB [], 2) else (s.extract 0 b.toNat, s.extract b.toNat s.size, 0)
theorem cut_eq (s : ByteArray) (b : Int) : octet_Cut.f s b = some (cutS s b) := by
  unfold octet_Cut.f cutS
  by_cases h : b < 0
  · rw [if_pos h, if_pos h]; rfl
  · rw [if_neg h, if_neg h]
    by_cases h1 : (s.size : Int) < b
    · rw [if_pos h1, if_pos h1]; rfl
    · rw [if_neg h1, if_neg h1, if_pos (by omega), if_pos (by omega)]

/-! ### Take -/
theorem take_loop (s rest : ByteArray) (hs : s.size ≤ 7) (d : Nat) : ∀ (k : Nat) (i n : Nat), i + d = s.size → n = num (s.data.toList.take i) → d < k →
    octet_Take.l0 k s rest (n : Int) (s.size : Int) (i : Int) = some ((num s.data.toList : Int), rest, 0) := by
  induction d with
  | zero =>
    intro k i n hi hn hk
    obtain ⟨k, rfl⟩ : ∃ m, k = m + 1 := ⟨k - 1, by omega⟩
    simp only [octet_Take.l0]
    rw [if_neg (by omega), hn, List.take_of_length_le (by rw [len]; omega)]
  | succ d ih =>
    intro k i n hi hn hk
    obtain ⟨k, rfl⟩ : ∃ m, k = m + 1 := ⟨k - 1, by omega⟩
    have hlt : i < s.data.toList.length := by rw [len]; omega
    have hb : bt s (i : Int) = ((s.data.toList[i]).toNat : Int) := bt_get s i hlt
    have hbl : (s.data.toList[i]).toNat < 256 := UInt8.toNat_lt _
    have hnl : n < 256 ^ 6 := by
      rw [hn]
      refine Nat.lt_of_lt_of_le (num_lt _) (Nat.pow_le_pow_right (by omega) ?_)
      rw [List.length_take]; omega
    have hstep : num (s.data.toList.take (i + 1)) = n * 256 + (s.data.toList[i]).toNat := by
      rw [List.take_succ_eq_append_getElem hlt, num_snoc, hn]
    simp only [octet_Take.l0]
    rw [if_pos (by omega), if_pos (by omega), if_pos (by omega)]
    have e1 : Go.bits .or .i64 (wrap64 ((n : Int) * 256)) (wrap64 (bt s (i : Int))) = ((num (s.data.toList.take (i + 1)) : Nat) : Int) := by
      rw [w64 (by omega) (by omega), hb, w64 (by omega) (by omega), or_join _ _ (by omega) (by omega) (by omega) (by omega), hstep]
      omega
    have e2 : wrap64 ((i : Int) + 1) = ((i + 1 : Nat) : Int) := by rw [w64 (by omega) (by omega)]; omega
    rw [e1, e2]
    exact ih k (i + 1) _ (by omega) rfl (by omega)
def takeS (s : ByteArray) (b : Int) : Int × ByteArray × Int :=
  if b < 1 ∨ 7 < b then (0, mkB [], 1) else if (s.size : Int) < b then (0, mkB [], 2)
  else ((num (s.data.toList.take b.toNat) : Int), s.extract b.toNat s.size, 0)
theorem take_eq (s : ByteArray) (b : Int) (k : Nat) (hk : 10 ≤ k) : octet_Take.f k s b = some (takeS s b) := by
  obtain ⟨k, rfl⟩ : ∃ m, k = m + 1 := ⟨k - 1, by omega⟩
  unfold octet_Take.f takeS
  by_cases h : b < 1
  · rw [if_pos h, if_pos (.inl h)]; simp only [octet_Take.j0, if_true]; rfl
  · rw [if_neg h]
    by_cases h7 : b > 7
    · rw [if_pos (.inr h7), decide_eq_true h7]; simp only [octet_Take.j0, if_true]; rfl
    · have h8 : ¬ (b < 1 ∨ 7 < b) := by omega
      have h9 : ¬ b < 0 := by omega
      rw [if_neg h8, decide_eq_false h7]; simp only [octet_Take.j0, Bool.false_eq_true, if_false]; rw [cut_eq]
      unfold cutS
      rw [if_neg h9]
      by_cases h1 : (s.size : Int) < b
      · rw [if_pos h1, if_pos h1]; rfl
      · rw [if_neg h1, if_neg h1]; simp only [Option.bind_some, if_true]
        have hz : (s.extract 0 b.toNat).size = b.toNat := by rw [ByteArray.size_extract]; omega
        have := take_loop (s.extract 0 b.toNat) (s.extract b.toNat s.size) (by omega) b.toNat k 0 0 (by omega) (by simp [num]) (by omega)
        rw [hz] at this ⊢
        rw [show ((0 : Nat) : Int) = 0 from rfl] at this
        rw [this]
        have e : (s.extract 0 b.toNat).data.toList = s.data.toList.take b.toNat := by
          have := mkB_extract s.data.toList 0 b.toNat
          rw [mkB_eta] at this
          rw [this, mkB_data]; simp
        rw [e]

end Go.Proofs.Ytmjpemnlilcpkaa.L04
namespace Go.Proofs.Ytmjpemnlilcpkaa.L04
open Go Go.RowKit Go.Proofs.Ytmjpemnlilcpkaa.Q Go.Proofs.Ytmjpemnlilcpkaa.Base Go.Proofs.YtmjpemnlilcpkaaW.PrintWords Go.Proofs.YtmjpemnlilcpkaaW.PrintMore
set_option linter.unusedVariables false
set_option linter.unusedSimpArgs false

/-! ### Put -/
theorem shr_at (a y : Int) (h0 : 0 ≤ y) (h1 : y ≤ 64) : shr .i64 a y = a / 2 ^ y.toNat := by
  unfold shr
  rw [Nat.min_eq_left (by show y.toNat ≤ 64; omega)]
/-- The digits of a number, from the i-th on. -/
def digs (n b : Nat) : Nat → Nat → List Nat
  | _, 0 => []
  | i, d + 1 => (n / 2 ^ (8 * (b - 1 - i)) % 256) :: digs n b (i + 1) d
theorem put_loop (a : Nat) (b : Nat) (hb : b ≤ 7) (d : Nat) : ∀ (k : Nat) (i : Nat) (xs : List Int), i + d = b → xs.length = b → d < k →
    octet_Put.l0 k (a : Int) (b : Int) xs (b : Int) (i : Int) = some (strOfNums (xs.take i ++ (digs a b i d).map fun n : Nat => (n : Int)), 0) := by
  induction d with
  | zero =>
    intro k i xs hi hx hk
    obtain ⟨k, rfl⟩ : ∃ m, k = m + 1 := ⟨k - 1, by omega⟩
    simp only [octet_Put.l0]
    rw [if_neg (by omega)]
    simp [digs, List.take_of_length_le (show xs.length ≤ i by omega)]
  | succ d ih =>
    intro k i xs hi hx hk
    obtain ⟨k, rfl⟩ : ∃ m, k = m + 1 := ⟨k - 1, by omega⟩
    simp only [octet_Put.l0]
    have e0 : wrap64 (8 * wrap64 (wrap64 ((b : Int) - 1) - (i : Int))) = ((8 * (b - 1 - i) : Nat) : Int) := by
      rw [w64 (n := (b : Int) - 1) (by omega) (by omega), w64 (n := (b : Int) - 1 - i) (by omega) (by omega), w64 (by omega) (by omega)]
      omega
    rw [e0, if_pos (by omega), if_pos (by omega), if_pos (by omega), if_pos (by omega), shr_at _ _ (by omega) (by omega)]
    have e2 : wrap64 ((i : Int) + 1) = ((i + 1 : Nat) : Int) := by rw [w64 (by omega) (by omega)]; omega
    rw [e2, ih k (i + 1) _ (by omega) (by simp [hx]) (by omega)]
    have e3 : ((a : Int) / 2 ^ ((8 * (b - 1 - i) : Nat) : Int).toNat % 256) = ((a / 2 ^ (8 * (b - 1 - i)) % 256 : Nat) : Int) := by
      rw [Int.toNat_natCast]; simp
    have e4 : ((i : Int)).toNat = i := by omega
    rw [e3, e4]
    congr 3
    rw [List.take_succ_eq_append_getElem (by simp; omega), List.getElem_set_self, List.take_set_of_le (Nat.le_refl _)]
    simp [digs]
theorem digs_enc (n b : Nat) (hb : b ≤ 7) : strOfNums ((digs n b 0 b).map fun n : Nat => (n : Int)) = mkB (enc n b) := by
  rw [nums_nat]
  congr 1
  have h : b = 0 ∨ b = 1 ∨ b = 2 ∨ b = 3 ∨ b = 4 ∨ b = 5 ∨ b = 6 ∨ b = 7 := by omega
  have key : ∀ m : Nat, (UInt8.ofNat (m % 256) = UInt8.ofNat m) := by
    intro m; apply UInt8.toNat_inj.1; simp
  rcases h with rfl | rfl | rfl | rfl | rfl | rfl | rfl | rfl <;> simp [digs, enc, Nat.div_div_eq_div_mul, key]
def putS (a b : Int) : ByteArray × Int :=
  if b < 1 ∨ 7 < b ∨ a < 0 ∨ (256 ^ b.toNat : Int) ≤ a then (mkB [], 1) else (mkB (enc a.toNat b.toNat), 0)
theorem pow8 (b : Nat) : (2 : Int) ^ (8 * b) = 256 ^ b := by
  rw [Int.pow_mul]; rfl
theorem put_eq (a b : Int) (k : Nat) (hk : 12 ≤ k) : octet_Put.f k a b = some (putS a b) := by
  obtain ⟨k, rfl⟩ : ∃ m, k = m + 1 := ⟨k - 1, by omega⟩
  unfold octet_Put.f putS
  by_cases h1 : b < 1
  · rw [if_pos h1, if_pos (.inl h1)]; simp only [octet_Put.j0, if_true]; rfl
  rw [if_neg h1]
  by_cases h7 : b > 7
  · rw [if_pos h7, if_pos (.inr (.inl h7))]; simp only [octet_Put.j0, if_true]; rfl
  rw [if_neg h7]
  by_cases h0 : a < 0
  · rw [if_pos h0, if_pos (.inr (.inr (.inl h0)))]; simp only [octet_Put.j0, if_true]; rfl
  rw [if_neg h0]
  obtain ⟨B, rfl⟩ := Int.eq_ofNat_of_zero_le (show 0 ≤ b by omega)
  obtain ⟨n, rfl⟩ := Int.eq_ofNat_of_zero_le (show 0 ≤ a by omega)
  have e0 : wrap64 (8 * (B : Int)) = ((8 * B : Nat) : Int) := by rw [w64 (by omega) (by omega)]; omega
  rw [e0, if_pos (by omega), shr_at _ _ (by omega) (by omega)]
  have e1 : (2 : Int) ^ ((8 * B : Nat) : Int).toNat = 256 ^ B := by rw [← pow8]; rfl
  have e2 : ((B : Int)).toNat = B := rfl
  have hp : (0 : Int) < 256 ^ B := Int.pow_pos (by omega)
  rw [e1, e2]
  by_cases hg : (256 ^ B : Int) ≤ (n : Int)
  · rw [if_pos (.inr (.inr (.inr hg)))]
    simp only [octet_Put.j0]
    have : (n : Int) / 256 ^ B ≠ 0 := by
      intro h
      have h2 := Int.mul_ediv_add_emod (n : Int) (256 ^ B)
      have h3 := Int.emod_lt_of_pos (n : Int) hp
      rw [h, Int.mul_zero] at h2
      omega
    rw [if_pos (by simpa using this)]; rfl
  · rw [if_neg (by omega)]
    simp only [octet_Put.j0]
    have hz : (n : Int) / 256 ^ B = 0 := Int.ediv_eq_zero_of_lt (by omega) (by omega)
    rw [hz, if_neg (by simp), if_pos (by omega), if_pos (by omega)]
    simp only [Option.bind_some, List.length_replicate, e2]
    have := put_loop n B (by omega) B k 0 (List.replicate B 0) (by omega) (by simp) (by omega)
    rw [show ((0 : Nat) : Int) = 0 from rfl] at this
    rw [this, List.take_zero, List.nil_append, digs_enc n B (by omega)]
    rfl

end Go.Proofs.Ytmjpemnlilcpkaa.L04
namespace Go.Proofs.Ytmjpemnlilcpkaa.LAt
open Go Go.RowKit Go.Proofs.Ytmjpemnlilcpkaa.Q Go.Proofs.Ytmjpemnlilcpkaa.Base Go.Proofs.Ytmjpemnlilcpkaa.L04 Go.Proofs.YtmjpemnlilcpkaaW.PrintWords Go.Proofs.YtmjpemnlilcpkaaW.PrintMore
set_option linter.unusedVariables false
set_option linter.unusedSimpArgs false

/-- The number of the bytes from i to j. -/
def at_ (s : ByteArray) (i j : Nat) : Nat := num ((s.data.toList.drop i).take (j - i))
theorem at_lt (s : ByteArray) (i j : Nat) : at_ s i j < 256 ^ (j - i) := by
  refine Nat.lt_of_lt_of_le (num_lt _) (Nat.pow_le_pow_right (by omega) ?_)
  rw [List.length_take]; omega
theorem extract_list (s : ByteArray) (a b : Nat) : (s.extract a b).data.toList = (s.data.toList.drop a).take (b - a) := by
  have := mkB_extract s.data.toList a b
  rw [mkB_eta] at this
  rw [this, mkB_data]
theorem app_list (x y : ByteArray) : (x ++ y).data.toList = x.data.toList ++ y.data.toList := by
  conv => lhs; rw [← mkB_eta x, ← mkB_eta y, mkB_app]
  rfl
theorem app_mkB (l : List UInt8) (y : ByteArray) : mkB l ++ y = mkB (l ++ y.data.toList) := by
  conv => lhs; rw [← mkB_eta y]
  rw [mkB_app]
/-- Take of a piece that begins at a place. -/
theorem take_at (s : ByteArray) (i b : Nat) (hb : 1 ≤ b ∧ b ≤ 7) (hi : i + b ≤ s.size) (k : Nat) (hk : 10 ≤ k) :
    octet_Take.f k (s.extract i s.size) (b : Int) = some (((at_ s i (i + b) : Nat) : Int), s.extract (i + b) s.size, 0) := by
  rw [take_eq _ _ _ hk]
  have hz : (s.extract i s.size).size = s.size - i := by rw [ByteArray.size_extract]; omega
  unfold takeS
  rw [if_neg (by omega), if_neg (by omega)]
  simp only [extract_list, Int.toNat_natCast]
  have e1 : num (List.take b (List.take (s.size - i) (List.drop i s.data.toList))) = at_ s i (i + b) := by
    unfold at_
    rw [List.take_take, show min b (s.size - i) = i + b - i by omega]
  have e2 : (s.extract i s.size).extract b (s.extract i s.size).size = s.extract (i + b) s.size := by
    rw [hz, ByteArray.extract_extract]
    congr 1; omega
  rw [e1, e2]
/-- One byte as a number. -/
theorem at_one (s : ByteArray) (i : Nat) (h : i < s.size) : ((at_ s i (i + 1) : Nat) : Int) = bt s (i : Int) := by
  have hl : i < s.data.toList.length := by rw [len]; exact h
  rw [bt_get s i hl]
  unfold at_
  rw [List.drop_eq_getElem_cons hl, show i + 1 - i = 1 by omega]
  simp [num]
theorem at_two (s : ByteArray) (i : Nat) (h : i + 1 < s.size) : ((at_ s i (i + 2) : Nat) : Int) = 256 * bt s (i : Int) + bt s ((i + 1 : Nat) : Int) := by
  have hl : i < s.data.toList.length := by rw [len]; omega
  have hl1 : i + 1 < s.data.toList.length := by rw [len]; omega
  rw [bt_get s i hl, bt_get s (i + 1) hl1]
  unfold at_
  rw [List.drop_eq_getElem_cons hl, List.drop_eq_getElem_cons hl1, show i + 2 - i = 2 by omega]
  simp [num]; omega
theorem enc_at (s : ByteArray) (i b : Nat) (h : i + b ≤ s.size) : enc (at_ s i (i + b)) b = (s.data.toList.drop i).take b := by
  unfold at_
  rw [show i + b - i = b by omega]
  have hl : ((s.data.toList.drop i).take b).length = b := by rw [List.length_take, List.length_drop, len]; omega
  have := enc_num ((s.data.toList.drop i).take b)
  rw [hl] at this; exact this
/-- What stands behind turns no number that lies ahead of it. -/
theorem at_app (s t : ByteArray) (i j : Nat) (h : j ≤ s.size) : at_ (s ++ t) i j = at_ s i j := by
  unfold at_
  by_cases hi : i ≤ s.size
  · rw [app_list, List.drop_append_of_le_length (by rw [len]; exact hi), List.take_append_of_le_length (by rw [List.length_drop, len]; omega)]
  · rw [show j - i = 0 by omega]; simp
theorem ext_app (s t : ByteArray) (i j : Nat) (h : j ≤ s.size) : (s ++ t).extract i j = s.extract i j := by
  rw [← mkB_eta ((s ++ t).extract i j), ← mkB_eta (s.extract i j), extract_list, extract_list]
  congr 1
  by_cases hi : i ≤ s.size
  · rw [app_list, List.drop_append_of_le_length (by rw [len]; exact hi), List.take_append_of_le_length (by rw [List.length_drop, len]; omega)]
  · rw [show j - i = 0 by omega]; simp
theorem bt_app (s t : ByteArray) (i : Nat) (h : i < s.size) : bt (s ++ t) (i : Int) = bt s (i : Int) := by
  rw [← at_one s i h, ← at_one (s ++ t) i (by rw [ByteArray.size_append]; omega), at_app s t _ _ (by omega)]

def two (n : Int) : List UInt8 := enc n.toNat 2
def one (n : Int) : List UInt8 := enc n.toNat 1
theorem two_length (n : Int) : (two n).length = 2 := enc_length _ _
theorem one_length (n : Int) : (one n).length = 1 := enc_length _ _
theorem putS_two {n : Int} (h0 : 0 ≤ n) (h1 : n ≤ 65535) : putS n 2 = (mkB (two n), 0) := by
  unfold putS
  rw [if_neg (by simp only [show (2 : Int).toNat = 2 from rfl]; omega)]; rfl
theorem putS_one {n : Int} (h0 : 0 ≤ n) (h1 : n ≤ 255) : putS n 1 = (mkB (one n), 0) := by
  unfold putS
  rw [if_neg (by simp only [show (1 : Int).toNat = 1 from rfl]; omega)]; rfl
theorem num_two {n : Int} (h0 : 0 ≤ n) (h1 : n ≤ 65535) : ((num (two n) : Nat) : Int) = n := by
  unfold two
  rw [num_enc, Nat.mod_eq_of_lt (by simp only [show (256 : Nat) ^ 2 = 65536 from rfl]; omega)]; omega
theorem num_one {n : Int} (h0 : 0 ≤ n) (h1 : n ≤ 255) : ((num (one n) : Nat) : Int) = n := by
  unfold one
  rw [num_enc, Nat.mod_eq_of_lt (by simp only [show (256 : Nat) ^ 1 = 256 from rfl]; omega)]; omega
end Go.Proofs.Ytmjpemnlilcpkaa.LAt
