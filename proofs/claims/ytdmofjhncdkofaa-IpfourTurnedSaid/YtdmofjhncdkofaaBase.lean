/- Plain facts on bytes, numbers in bytes, and sums, for the statements of layers 4 to 9. No program in sight. -/
import Derived.RowKit
import Derived.Laws.BytesArg
import Derived.Laws.BitsLemmas
import Derived.Laws.Strings
import Derived.Test.YtdmofjhncdkofaaV
namespace Go.Proofs.Ytdmofjhncdkofaa.Base
open Go Go.RowKit Go.Proofs.YtdmofjhncdkofaaW.PrintWords Go.Proofs.YtdmofjhncdkofaaW.PrintMore

/-! ### numbers in range -/
theorem w64 {n : Int} (h0 : -9223372036854775808 ≤ n) (h1 : n ≤ 9223372036854775807) : wrap64 n = n := by unfold wrap64; omega
theorem wf64 {n : Int} (h : (Lit.int .i64 n).wf = true) : -9223372036854775808 ≤ n ∧ n ≤ 9223372036854775807 := by
  simp only [Lit.wf, Bool.and_eq_true, decide_eq_true_eq] at h
  have h1 : IntKind.i64.min = -9223372036854775808 := rfl
  have h2 : IntKind.i64.max = 9223372036854775807 := rfl
  omega
theorem i64_keeps (n : Int) (h₀ : 0 ≤ n) (h₁ : n < 2 ^ 63) : IntKind.i64.wrap n = n := by rw [IntKind.wrap_i64]; omega
theorem or_join (x y : Int) (hx₀ : 0 ≤ x) (hx₁ : x < 36028797018963968) (hy₀ : 0 ≤ y) (hy : y < 256) : Go.bits .or .i64 (x * 256) y = x * 256 + y :=
  bits_join .i64 63 (by decide) i64_keeps 8 (x * 256) y (by omega) (by omega) (by omega) hy₀ (by omega) (by omega)
theorem and_one (x : Int) (h0 : 0 ≤ x) (h1 : x < 9223372036854775808) : Go.bits .and .i64 x 1 = x % 2 :=
  bits_mask .i64 63 (by decide) i64_keeps 1 (by decide) x h0 (by omega)
theorem and_low (x : Int) (h0 : 0 ≤ x) (h1 : x < 9223372036854775808) : Go.bits .and .i64 x 65535 = x % 65536 :=
  bits_mask .i64 63 (by decide) i64_keeps 16 (by decide) x h0 (by omega)

theorem shl_8 (x : Int) (h0 : 0 ≤ x) (h1 : x < 256) : shl .i64 (wrap64 x) 8 = 256 * x := by
  rw [w64 (by omega) (by omega)]
  show IntKind.i64.wrap (x * 256) = 256 * x
  rw [IntKind.wrap_i64]; omega
theorem shl_0 (x : Int) (h0 : 0 ≤ x) (h1 : x < 256) : shl .i64 (wrap64 x) 0 = x := by
  rw [w64 (by omega) (by omega)]
  show IntKind.i64.wrap (x * 1) = x
  rw [IntKind.wrap_i64, Int.mul_one]; omega

/-! ### bytes and lists -/
def mkB (l : List UInt8) : ByteArray := ⟨l.toArray⟩
theorem mkB_data (l : List UInt8) : (mkB l).data.toList = l := rfl
theorem mkB_toList (l : List UInt8) : (mkB l).toList = l := by rw [ByteArray.toList_eq]; rfl
theorem mkB_size (l : List UInt8) : (mkB l).size = l.length := rfl
theorem mkB_eta (s : ByteArray) : mkB s.data.toList = s := by cases s; simp [mkB]
theorem mkB_inj {a b : List UInt8} (h : mkB a = mkB b) : a = b := by
  have := congrArg (fun s => s.data.toList) h
  simpa [mkB] using this
theorem mkB_app (a b : List UInt8) : mkB a ++ mkB b = mkB (a ++ b) := by
  apply ByteArray.ext; simp [mkB]
theorem mkB_extract (l : List UInt8) (a b : Nat) : (mkB l).extract a b = mkB ((l.drop a).take (b - a)) := by
  apply ByteArray.ext; simp [mkB]
theorem toL (s : ByteArray) : s.toList = s.data.toList := ByteArray.toList_eq s
theorem len (s : ByteArray) : s.data.toList.length = s.size := by rw [Array.length_toList]; rfl
theorem ext_of {a b : ByteArray} (h : a.toList = b.toList) : a = b := by
  rw [toL, toL] at h
  rw [← mkB_eta a, ← mkB_eta b, h]
theorem bt_mkB (l : List UInt8) (i : Int) : bt (mkB l) i = ((l.getD i.toNat 0).toNat : Int) := by
  unfold bt
  by_cases h : i.toNat < (mkB l).size
  · rw [dif_pos h]
    have h' : i.toNat < l.length := h
    rw [List.getD_eq_getElem?_getD, List.getElem?_eq_getElem h']; rfl
  · rw [dif_neg h]
    have h' : ¬ i.toNat < l.length := h
    rw [List.getD_eq_getElem?_getD, List.getElem?_eq_none (by omega)]; rfl
theorem bt_get (s : ByteArray) (i : Nat) (h : i < s.data.toList.length) : bt s (i : Int) = ((s.data.toList[i]).toNat : Int) := by
  have e := bt_mkB s.data.toList (i : Int)
  rw [mkB_eta, List.getD_eq_getElem?_getD] at e
  rw [e]; simp only [Int.toNat_natCast]; rw [List.getElem?_eq_getElem h]; rfl
theorem nums_nat (xs : List Nat) : strOfNums (xs.map fun n : Nat => (n : Int)) = mkB (xs.map UInt8.ofNat) := by
  rw [strOfNums, mkB]; simp [Function.comp_def]
theorem nums_mkB (xs : List Int) : strOfNums xs = mkB (xs.map fun n => UInt8.ofNat n.toNat) := rfl

/-! ### the number of bytes -/
def num : List UInt8 → Nat
  | [] => 0
  | a :: r => a.toNat * 256 ^ r.length + num r
def enc (n : Nat) : Nat → List UInt8
  | 0 => []
  | k + 1 => enc (n / 256) k ++ [UInt8.ofNat n]
theorem enc_length (n k : Nat) : (enc n k).length = k := by
  induction k generalizing n with
  | zero => rfl
  | succ k ih => simp [enc, ih]
theorem num_app (a b : List UInt8) : num (a ++ b) = num a * 256 ^ b.length + num b := by
  induction a with
  | nil => simp [num]
  | cons x a ih =>
    simp only [List.cons_append, num, ih, List.length_append]
    rw [Nat.add_mul, Nat.mul_assoc, ← Nat.pow_add]
    omega
theorem num_lt (l : List UInt8) : num l < 256 ^ l.length := by
  induction l with
  | nil => simp [num]
  | cons a r ih =>
    have : a.toNat < 256 := a.toNat_lt
    simp only [num, List.length_cons]
    calc a.toNat * 256 ^ r.length + num r < a.toNat * 256 ^ r.length + 256 ^ r.length := by omega
      _ = (a.toNat + 1) * 256 ^ r.length := by rw [Nat.add_mul]; omega
      _ ≤ 256 * 256 ^ r.length := Nat.mul_le_mul_right _ (by omega)
      _ = 256 ^ (r.length + 1) := by rw [Nat.pow_succ]; omega
theorem ofNat_mod (n : Nat) : (UInt8.ofNat n).toNat = n % 256 := by simp
theorem num_enc (n k : Nat) : num (enc n k) = n % 256 ^ k := by
  induction k generalizing n with
  | zero => simp [enc, num, Nat.mod_one]
  | succ k ih =>
    rw [enc, num_app, ih]
    have e : num [UInt8.ofNat n] = n % 256 := by simp [num]
    rw [e, Nat.pow_succ 256 k, Nat.mul_comm (256 ^ k) 256, Nat.mod_mul]
    simp only [List.length_cons, List.length_nil, Nat.zero_add, Nat.pow_one]
    omega
theorem num_snoc (l : List UInt8) (a : UInt8) : num (l ++ [a]) = num l * 256 + a.toNat := by
  rw [num_app]; simp [num]
theorem enc_num (l : List UInt8) : enc (num l) l.length = l := by
  obtain ⟨m, hm⟩ : ∃ m, m = l.length := ⟨_, rfl⟩
  induction m generalizing l with
  | zero => rw [← hm]; simp only [enc]; exact Eq.symm <| (List.length_eq_zero_iff.1 hm.symm)
  | succ m ih =>
    have hne : l ≠ [] := by intro h; rw [h] at hm; cases hm
    obtain ⟨r, a, rfl⟩ : ∃ r a, l = r ++ [a] := ⟨l.dropLast, l.getLast hne, (List.dropLast_concat_getLast hne).symm⟩
    have hr : m = r.length := by simp at hm; omega
    have ha := a.toNat_lt
    rw [← hm, num_snoc, enc]
    have e1 : (num r * 256 + a.toNat) / 256 = num r := by omega
    have e2 : UInt8.ofNat (num r * 256 + a.toNat) = a := by
      apply UInt8.toNat_inj.1; rw [ofNat_mod]; omega
    rw [e1, e2, hr, ih r hr]

/-! ### the sum -/
def fold (n : Nat) : Nat := if n = 0 then 0 else (n - 1) % 65535 + 1
theorem fold_le (n : Nat) : fold n ≤ 65535 := by unfold fold; split <;> omega
theorem fold_small {n : Nat} (h : n ≤ 65535) : fold n = n := by unfold fold; split <;> omega
theorem fold_step (n : Nat) (h : 65535 < n) : fold (n % 65536 + n / 65536) = fold n := by
  unfold fold; rw [if_neg (by omega), if_neg (by omega)]; omega
theorem fold_add (a b : Nat) : fold (fold a + b) = fold (a + b) := by
  unfold fold
  by_cases h : a = 0
  · subst h; simp
  · rw [if_neg h, if_neg (by omega), if_neg (by omega)]; omega
theorem fold_over {a : Nat} (h : 65535 < a) (h' : a ≤ 131070) : fold a = a - 65535 := by unfold fold; rw [if_neg (by omega)]; omega
/-- The bytes of a text, the first one at the place of a higher one (true) or not. -/
def wsum : Bool → List UInt8 → Nat
  | _, [] => 0
  | true, a :: r => 256 * a.toNat + wsum false r
  | false, a :: r => a.toNat + wsum true r
theorem wsum_le (p : Bool) (l : List UInt8) : wsum p l ≤ 65280 * l.length := by
  induction l generalizing p with
  | nil => cases p <;> simp [wsum]
  | cons a r ih =>
    have := a.toNat_lt
    cases p <;> simp only [wsum, List.length_cons]
    · have := ih true; omega
    · have := ih false; omega
theorem wsum_app (p : Bool) (a b : List UInt8) : wsum p (a ++ b) = wsum p a + wsum (if a.length % 2 = 0 then p else !p) b := by
  induction a generalizing p with
  | nil => cases p <;> simp [wsum]
  | cons x a ih =>
    have e : ∀ q : Bool, (if a.length % 2 = 0 then !q else !!q) = (if (a.length + 1) % 2 = 0 then q else !q) := by
      intro q
      by_cases h : a.length % 2 = 0
      · rw [if_pos h, if_neg (by omega)]
      · rw [if_neg h, if_pos (by omega)]; simp
    cases p
    · have := ih true
      have := e false
      simp only [List.cons_append, wsum, List.length_cons, ih]
      simp only [Bool.not_false, Bool.not_true] at this ⊢
      rw [this]; omega
    · have := ih false
      have := e true
      simp only [List.cons_append, wsum, List.length_cons, ih]
      simp only [Bool.not_false, Bool.not_true] at this ⊢
      rw [this]; omega
theorem wsum_even (p : Bool) (a b : List UInt8) (h : a.length % 2 = 0) : wsum p (a ++ b) = wsum p a + wsum p b := by
  rw [wsum_app, if_pos h]
/-- The sum of the Internet. -/
def isum (l : List UInt8) : Nat := 65535 - fold (wsum true l)
theorem isum_le (l : List UInt8) : isum l ≤ 65535 := by unfold isum; omega
theorem xor_low (x : Nat) (h : x ≤ 65535) : x ^^^ 65535 = 65535 - x := by
  have h1 : (BitVec.ofNat 16 x ^^^ BitVec.allOnes 16) = ~~~ (BitVec.ofNat 16 x) := BitVec.xor_allOnes
  have h2 := congrArg BitVec.toNat h1
  rw [BitVec.toNat_xor, BitVec.toNat_not, BitVec.toNat_ofNat, BitVec.toNat_allOnes, Nat.mod_eq_of_lt (by omega)] at h2
  exact h2
theorem i64_xor (x : Int) (h0 : 0 ≤ x) (h1 : x ≤ 65535) : Go.bits .xor .i64 x 65535 = 65535 - x := by
  obtain ⟨n, rfl⟩ := Int.eq_ofNat_of_zero_le h0
  have hn : n ≤ 65535 := by omega
  have e : BitVec.ofInt 64 (65535 : Int) = BitVec.ofNat 64 65535 := rfl
  have hx : n ^^^ 65535 = 65535 - n := xor_low n hn
  have hb : IntKind.i64.bits = 64 := rfl
  simp only [Go.bits]
  rw [hb, e, BitVec.ofInt_natCast, BitVec.toNat_xor, BitVec.toNat_ofNat, BitVec.toNat_ofNat, Nat.mod_eq_of_lt (by omega), Nat.mod_eq_of_lt (by omega), hx]
  rw [IntKind.wrap_i64]; omega
end Go.Proofs.Ytdmofjhncdkofaa.Base
