/- What the printed functions answer, told by plain functions on bytes: octet.Put. -/
import Derived.Test.YtfdhifigndmgaaaBase
import Derived.Test.YtfdhifigndmgaaaQx2
namespace Go.Proofs.Ytfdhifigndmgaaa.L04
open Go Go.RowKit Go.Proofs.Ytfdhifigndmgaaa.Q Go.Proofs.Ytfdhifigndmgaaa.Base Go.Proofs.YtfdhifigndmgaaaW.PrintWords Go.Proofs.YtfdhifigndmgaaaW.PrintMore
set_option linter.unusedVariables false
set_option linter.unusedSimpArgs false

/-! ### Put -/
theorem shr_at (a y : Int) (h0 : 0 ≤ y) (h1 : y ≤ 64) : shr .i64 a y = a / 2 ^ y.toNat := by
  unfold shr
  rw [Nat.min_eq_left (by show y.toNat ≤ 64; omega)]
/-- The digits of a number, from the i-th on. -/
def digs (n b : Nat) : Nat → Nat → List Nat
  | _, 0 => []
  | i, d + 1 => (n / 2 ^ (8 * (b - 1 - i)) % 256) :: digs n b (i + 1) d
theorem put_loop (a : Nat) (b : Nat) (hb : b ≤ 7) (d : Nat) : ∀ (k : Nat) (i : Nat) (xs : List Int), i + d = b → xs.length = b → d < k →
    octet_Put.l0 k (a : Int) (b : Int) xs (b : Int) (i : Int) = some (strOfNums (xs.take i ++ (digs a b i d).map fun n : Nat => (n : Int)), 0) := by
  induction d with
  | zero =>
    intro k i xs hi hx hk
    obtain ⟨k, rfl⟩ : ∃ m, k = m + 1 := ⟨k - 1, by omega⟩
    simp only [octet_Put.l0]
    rw [if_neg (by omega)]
    simp [digs, List.take_of_length_le (show xs.length ≤ i by omega)]
  | succ d ih =>
    intro k i xs hi hx hk
    obtain ⟨k, rfl⟩ : ∃ m, k = m + 1 := ⟨k - 1, by omega⟩
    simp only [octet_Put.l0]
    have e0 : wrap64 (8 * wrap64 (wrap64 ((b : Int) - 1) - (i : Int))) = ((8 * (b - 1 - i) : Nat) : Int) := by
      rw [w64 (n := (b : Int) - 1) (by omega) (by omega), w64 (n := (b : Int) - 1 - i) (by omega) (by omega), w64 (by omega) (by omega)]
      omega
    rw [e0, if_pos (by omega), if_pos (by omega), if_pos (by omega), if_pos (by omega), shr_at _ _ (by omega) (by omega)]
    have e2 : wrap64 ((i : Int) + 1) = ((i + 1 : Nat) : Int) := by rw [w64 (by omega) (by omega)]; omega
    rw [e2, ih k (i + 1) _ (by omega) (by simp [hx]) (by omega)]
    have e3 : ((a : Int) / 2 ^ ((8 * (b - 1 - i) : Nat) : Int).toNat % 256) = ((a / 2 ^ (8 * (b - 1 - i)) % 256 : Nat) : Int) := by
      rw [Int.toNat_natCast]; simp
    have e4 : ((i : Int)).toNat = i := by omega
    rw [e3, e4]
    congr 3
    rw [List.take_succ_eq_append_getElem (by simp; omega), List.getElem_set_self, List.take_set_of_le (Nat.le_refl _)]
    simp [digs]
theorem digs_enc (n b : Nat) (hb : b ≤ 7) : strOfNums ((digs n b 0 b).map fun n : Nat => (n : Int)) = mkB (enc n b) := by
  rw [nums_nat]
  congr 1
  have h : b = 0 ∨ b = 1 ∨ b = 2 ∨ b = 3 ∨ b = 4 ∨ b = 5 ∨ b = 6 ∨ b = 7 := by omega
  have key : ∀ m : Nat, (UInt8.ofNat (m % 256) = UInt8.ofNat m) := by
    intro m; apply UInt8.toNat_inj.1; simp
  rcases h with rfl | rfl | rfl | rfl | rfl | rfl | rfl | rfl <;> simp [digs, enc, Nat.div_div_eq_div_mul, key]
def putS (a b : Int) : ByteArray × Int :=
  if b < 1 ∨ 7 < b ∨ a < 0 ∨ (256 ^ b.toNat : Int) ≤ a then (mkB [], 1) else (mkB (enc a.toNat b.toNat), 0)
theorem pow8 (b : Nat) : (2 : Int) ^ (8 * b) = 256 ^ b := by
  rw [Int.pow_mul]; rfl
theorem put_eq (a b : Int) (k : Nat) (hk : 12 ≤ k) : octet_Put.f k a b = some (putS a b) := by
  obtain ⟨k, rfl⟩ : ∃ m, k = m + 1 := ⟨k - 1, by omega⟩
  unfold octet_Put.f putS
  by_cases h1 : b < 1
  · rw [if_pos h1, if_pos (.inl h1)]; simp only [octet_Put.j0, if_true]; rfl
  rw [if_neg h1]
  by_cases h7 : b > 7
  · rw [if_pos h7, if_pos (.inr (.inl h7))]; simp only [octet_Put.j0, if_true]; rfl
  rw [if_neg h7]
  by_cases h0 : a < 0
  · rw [if_pos h0, if_pos (.inr (.inr (.inl h0)))]; simp only [octet_Put.j0, if_true]; rfl
  rw [if_neg h0]
  obtain ⟨B, rfl⟩ := Int.eq_ofNat_of_zero_le (show 0 ≤ b by omega)
  obtain ⟨n, rfl⟩ := Int.eq_ofNat_of_zero_le (show 0 ≤ a by omega)
  have e0 : wrap64 (8 * (B : Int)) = ((8 * B : Nat) : Int) := by rw [w64 (by omega) (by omega)]; omega
  rw [e0, if_pos (by omega), shr_at _ _ (by omega) (by omega)]
  have e1 : (2 : Int) ^ ((8 * B : Nat) : Int).toNat = 256 ^ B := by rw [← pow8]; rfl
  have e2 : ((B : Int)).toNat = B := rfl
  have hp : (0 : Int) < 256 ^ B := Int.pow_pos (by omega)
  rw [e1, e2]
  by_cases hg : (256 ^ B : Int) ≤ (n : Int)
  · rw [if_pos (.inr (.inr (.inr hg)))]
    simp only [octet_Put.j0]
    have : (n : Int) / 256 ^ B ≠ 0 := by
      intro h
      have h2 := Int.mul_ediv_add_emod (n : Int) (256 ^ B)
      have h3 := Int.emod_lt_of_pos (n : Int) hp
      rw [h, Int.mul_zero] at h2
      omega
    rw [if_pos (by simpa using this)]; rfl
  · rw [if_neg (by omega)]
    simp only [octet_Put.j0]
    have hz : (n : Int) / 256 ^ B = 0 := Int.ediv_eq_zero_of_lt (by omega) (by omega)
    rw [hz, if_neg (by simp), if_pos (by omega), if_pos (by omega)]
    simp only [Option.bind_some, List.length_replicate, e2]
    have := put_loop n B (by omega) B k 0 (List.replicate B 0) (by omega) (by simp) (by omega)
    rw [show ((0 : Nat) : Int) = 0 from rfl] at this
    rw [this, List.take_zero, List.nil_append, digs_enc n B (by omega)]
    rfl

end Go.Proofs.Ytfdhifigndmgaaa.L04
