/- Numbers and pieces at places of a text; two bytes of a number. -/
import Derived.Test.YtfdhifigndmgaaaL4Take
import Derived.Test.YtfdhifigndmgaaaL4Put
import Derived.Test.YtfdhifigndmgaaaQx6
namespace Go.Proofs.Ytfdhifigndmgaaa.LAt
open Go Go.RowKit Go.Proofs.Ytfdhifigndmgaaa.Q Go.Proofs.Ytfdhifigndmgaaa.Base Go.Proofs.Ytfdhifigndmgaaa.L04 Go.Proofs.YtfdhifigndmgaaaW.PrintWords Go.Proofs.YtfdhifigndmgaaaW.PrintMore
set_option linter.unusedVariables false
set_option linter.unusedSimpArgs false

/-- The number of the bytes from i to j. -/
def at_ (s : ByteArray) (i j : Nat) : Nat := num ((s.data.toList.drop i).take (j - i))
theorem at_lt (s : ByteArray) (i j : Nat) : at_ s i j < 256 ^ (j - i) := by
  refine Nat.lt_of_lt_of_le (num_lt _) (Nat.pow_le_pow_right (by omega) ?_)
  rw [List.length_take]; omega
theorem extract_list (s : ByteArray) (a b : Nat) : (s.extract a b).data.toList = (s.data.toList.drop a).take (b - a) := by
  have := mkB_extract s.data.toList a b
  rw [mkB_eta] at this
  rw [this, mkB_data]
theorem app_list (x y : ByteArray) : (x ++ y).data.toList = x.data.toList ++ y.data.toList := by
  conv => lhs; rw [← mkB_eta x, ← mkB_eta y, mkB_app]
  rfl
theorem app_mkB (l : List UInt8) (y : ByteArray) : mkB l ++ y = mkB (l ++ y.data.toList) := by
  conv => lhs; rw [← mkB_eta y]
  rw [mkB_app]
/-- Take of a piece that begins at a place. -/
theorem take_at (s : ByteArray) (i b : Nat) (hb : 1 ≤ b ∧ b ≤ 7) (hi : i + b ≤ s.size) (k : Nat) (hk : 10 ≤ k) :
    octet_Take.f k (s.extract i s.size) (b : Int) = some (((at_ s i (i + b) : Nat) : Int), s.extract (i + b) s.size, 0) := by
  rw [take_eq _ _ _ hk]
  have hz : (s.extract i s.size).size = s.size - i := by rw [ByteArray.size_extract]; omega
  unfold takeS
  rw [if_neg (by omega), if_neg (by omega)]
  simp only [extract_list, Int.toNat_natCast]
  have e1 : num (List.take b (List.take (s.size - i) (List.drop i s.data.toList))) = at_ s i (i + b) := by
    unfold at_
    rw [List.take_take, show min b (s.size - i) = i + b - i by omega]
  have e2 : (s.extract i s.size).extract b (s.extract i s.size).size = s.extract (i + b) s.size := by
    rw [hz, ByteArray.extract_extract]
    congr 1; omega
  rw [e1, e2]
/-- One byte as a number. -/
theorem at_one (s : ByteArray) (i : Nat) (h : i < s.size) : ((at_ s i (i + 1) : Nat) : Int) = bt s (i : Int) := by
  have hl : i < s.data.toList.length := by rw [len]; exact h
  rw [bt_get s i hl]
  unfold at_
  rw [List.drop_eq_getElem_cons hl, show i + 1 - i = 1 by omega]
  simp [num]
theorem at_two (s : ByteArray) (i : Nat) (h : i + 1 < s.size) : ((at_ s i (i + 2) : Nat) : Int) = 256 * bt s (i : Int) + bt s ((i + 1 : Nat) : Int) := by
  have hl : i < s.data.toList.length := by rw [len]; omega
  have hl1 : i + 1 < s.data.toList.length := by rw [len]; omega
  rw [bt_get s i hl, bt_get s (i + 1) hl1]
  unfold at_
  rw [List.drop_eq_getElem_cons hl, List.drop_eq_getElem_cons hl1, show i + 2 - i = 2 by omega]
  simp [num]; omega
theorem enc_at (s : ByteArray) (i b : Nat) (h : i + b ≤ s.size) : enc (at_ s i (i + b)) b = (s.data.toList.drop i).take b := by
  unfold at_
  rw [show i + b - i = b by omega]
  have hl : ((s.data.toList.drop i).take b).length = b := by rw [List.length_take, List.length_drop, len]; omega
  have := enc_num ((s.data.toList.drop i).take b)
  rw [hl] at this; exact this
/-- What stands behind turns no number that lies ahead of it. -/
theorem at_app (s t : ByteArray) (i j : Nat) (h : j ≤ s.size) : at_ (s ++ t) i j = at_ s i j := by
  unfold at_
  by_cases hi : i ≤ s.size
  · rw [app_list, List.drop_append_of_le_length (by rw [len]; exact hi), List.take_append_of_le_length (by rw [List.length_drop, len]; omega)]
  · rw [show j - i = 0 by omega]; simp
theorem ext_app (s t : ByteArray) (i j : Nat) (h : j ≤ s.size) : (s ++ t).extract i j = s.extract i j := by
  rw [← mkB_eta ((s ++ t).extract i j), ← mkB_eta (s.extract i j), extract_list, extract_list]
  congr 1
  by_cases hi : i ≤ s.size
  · rw [app_list, List.drop_append_of_le_length (by rw [len]; exact hi), List.take_append_of_le_length (by rw [List.length_drop, len]; omega)]
  · rw [show j - i = 0 by omega]; simp
theorem bt_app (s t : ByteArray) (i : Nat) (h : i < s.size) : bt (s ++ t) (i : Int) = bt s (i : Int) := by
  rw [← at_one s i h, ← at_one (s ++ t) i (by rw [ByteArray.size_append]; omega), at_app s t _ _ (by omega)]

def two (n : Int) : List UInt8 := enc n.toNat 2
def one (n : Int) : List UInt8 := enc n.toNat 1
theorem two_length (n : Int) : (two n).length = 2 := enc_length _ _
theorem one_length (n : Int) : (one n).length = 1 := enc_length _ _
theorem putS_two {n : Int} (h0 : 0 ≤ n) (h1 : n ≤ 65535) : putS n 2 = (mkB (two n), 0) := by
  unfold putS
  rw [if_neg (by simp only [show (2 : Int).toNat = 2 from rfl]; omega)]; rfl
theorem putS_one {n : Int} (h0 : 0 ≤ n) (h1 : n ≤ 255) : putS n 1 = (mkB (one n), 0) := by
  unfold putS
  rw [if_neg (by simp only [show (1 : Int).toNat = 1 from rfl]; omega)]; rfl
theorem num_two {n : Int} (h0 : 0 ≤ n) (h1 : n ≤ 65535) : ((num (two n) : Nat) : Int) = n := by
  unfold two
  rw [num_enc, Nat.mod_eq_of_lt (by simp only [show (256 : Nat) ^ 2 = 65536 from rfl]; omega)]; omega
theorem num_one {n : Int} (h0 : 0 ≤ n) (h1 : n ≤ 255) : ((num (one n) : Nat) : Int) = n := by
  unfold one
  rw [num_enc, Nat.mod_eq_of_lt (by simp only [show (256 : Nat) ^ 1 = 256 from rfl]; omega)]; omega
end Go.Proofs.Ytfdhifigndmgaaa.LAt
