/- octet.Cut. -/
import Derived.Test.YtnoieleoklpciaaGreatDoorFld
set_option linter.unusedVariables false
set_option linter.unusedSimpArgs false

namespace Go.Proofs.YtnoieleoklpciaaGreatDoor
open Go.Run Go
namespace Core
open Ty
set_option maxRecDepth 1000000
section
variable {n : Nat} {σ : St} {tab : Tab}
theorem o_sto {a : List UInt8} {k : Nat} (h : k ≤ a.length) : slcO (C M) 9 (S a) none (some (I (k : Nat))) none σ = .val (S (a.take k)) := by
  show sliceF (C M) 9 (S a) none (some (I (k : Nat))) none σ = _
  unfold sliceF
  simp only [un9]
  show sliceStr a (some 0) (some k) = _
  unfold sliceStr
  have h1 : Nat.ble 0 k = true := Nat.ble_eq_true_of_le (Nat.zero_le _)
  have h2 : Nat.ble k (lenN a) = true := Nat.ble_eq_true_of_le (by rw [lenN_eq]; exact h)
  simp only [h1, h2]
  simp [lenN_eq, takeN_take, dropN_drop, h, S]
  rfl
theorem o_sfr {a : List UInt8} {k : Nat} (h : k ≤ a.length) : slcO (C M) 9 (S a) (some (I (k : Nat))) none none σ = .val (S (a.drop k)) := by
  show sliceF (C M) 9 (S a) (some (I (k : Nat))) none none σ = _
  unfold sliceF
  simp only [un9]
  show sliceStr a (some k) (some (lenN a)) = _
  unfold sliceStr
  have h1 : Nat.ble k (lenN a) = true := Nat.ble_eq_true_of_le (by rw [lenN_eq]; exact h)
  have h2 : Nat.ble (lenN a) (lenN a) = true := Nat.ble_eq_true_of_le (Nat.le_refl _)
  simp only [h1, h2]
  simp [lenN_eq, takeN_take, dropN_drop, h, S]
  rw [List.take_of_length_le (by rw [List.length_drop]; omega)]
  rfl
/-- octet.Cut, of a number of bytes that is not below nought -/
def cutP (s : List UInt8) (k : Nat) : AV := if s.length < k then .tup [S [], S [], I 2] else .tup [S (s.take k), S (s.drop k), I 0]
theorem y_ret3 {x y z : AV} {Q : AV → St → Prop} (hq : Q (.tup [x, y, z]) σ) : Yl (retV (C M) [(none, x), (none, y), (none, z)] σ) Q := y_ret rfl hq
theorem cut_run (ht : Fr tab) {s : List UInt8} {k : Nat} : callK (C M) tab (n + 1) 193 [S s, I (k : Nat)] σ = some (cutP s k, σ) := by
  refine callK_body (ht _ rfl) Tryz.func193 (by kernel_rfl) ?_
  rw [F193_eq]
  refine Yl.eq ?_
  unfold K193_0 K193_1
  refine y_val (k_lssF (by omega)) ?_
  refine y_iff (rfl) ?_
  refine y_val (o_slen un9) ?_
  unfold cutP
  by_cases h : s.length < k
  · refine y_val (k_lssT (by omega)) ?_
    refine y_ift (rfl) ?_
    exact y_ret3 ⟨by rw [if_pos h], rfl⟩
  · refine y_val (k_lssF (by omega)) ?_
    refine y_iff (rfl) ?_
    unfold K193_2
    refine y_din ?_
    refine y_dchk (o_sto (by omega)) rfl ?_
    refine y_dchk (o_sfr (by omega)) rfl ?_
    exact y_ret3 ⟨by rw [if_neg h], rfl⟩
theorem tag_run (ht : Fr tab) {a : Int} : callK (C M) tab (n + 1) 209 [I a] σ = some (B (a == 33024 || a == 34984), σ) := by
  refine callK_body (ht _ rfl) Tryz.func209 (by kernel_rfl) ?_
  rw [F209_eq]
  refine Yl.eq ?_
  unfold K209_0
  refine y_val (o_eql) ?_
  cases h : (a == 33024) with
  | true =>
    refine y_val (gd_off) ?_
    refine y_val (gd_off) ?_
    refine y_val (rfl) ?_
    exact y_ret0 ⟨rfl, rfl⟩
  | false =>
    refine y_val (gd_on rfl) ?_
    refine y_val (gd_on o_eql) ?_
    refine y_val (rfl) ?_
    exact y_ret0 ⟨rfl, rfl⟩
/-- the number that bytes make -/
def numB (l : List UInt8) : Nat := l.foldl (fun n b => n * 256 + b.toNat) 0
theorem numB_snoc (l : List UInt8) (b : UInt8) : numB (l ++ [b]) = numB l * 256 + b.toNat := by unfold numB; rw [List.foldl_append]; rfl
theorem numB_lt : ∀ (k : Nat) (l : List UInt8), l.length = k → numB l < 256 ^ k := by
  intro k
  induction k with
  | zero => intro l h; rw [List.length_eq_zero_iff.mp h]; decide
  | succ k ih =>
    intro l h
    obtain ⟨r, b, rfl⟩ : ∃ r b, l = r ++ [b] := ⟨l.dropLast, l.getLast (by intro e; rw [e] at h; cases h), (List.dropLast_concat_getLast _).symm⟩
    rw [numB_snoc]
    have h1 := ih r (by simpa using h)
    have h2 := b.toNat_lt
    rw [Nat.pow_succ]
    omega
theorem o_shl8 {t : TypeId} {a : Nat} (h : a < 36028797018963968) : binO (C M) .shl t (I (a : Nat)) (Iu 8) σ = .val (I ((a * 256 : Nat) : Int)) := by
  show intV .i64 (wrapA .i64 ((a : Int) * 256)) = _
  rw [intV_eq, wrap_id (by omega) (by omega)]; rfl
theorem bits_i {n : Nat} (h : n < 9223372036854775808) : Go.Run.bits .i64 (n : Int) = n := by
  show n % (2 ^ 64) = n
  exact Nat.mod_eq_of_lt (by omega)
theorem o_or8 {t : TypeId} {a b : Nat} (h : a < 36028797018963968) (hb : b < 256) : binO (C M) .or t (I ((a * 256 : Nat) : Int)) (I (b : Nat)) σ = .val (I ((a * 256 + b : Nat) : Int)) := by
  show intV .i64 (wrapA .i64 (.ofNat (Nat.lor (Go.Run.bits .i64 ((a * 256 : Nat) : Int)) (Go.Run.bits .i64 (b : Int))))) = _
  have e : Nat.lor (a * 256) b = a * 256 + b := by
    have := Nat.two_pow_add_eq_or_of_lt (i := 8) (b := b) (by omega) a
    show a * 256 ||| b = _
    rw [Nat.mul_comm a 256]
    exact this.symm
  rw [bits_i (by omega), bits_i (by omega), e, intV_eq]
  show Out.val (I (wrapA .i64 ((a * 256 + b : Nat) : Int))) = _
  rw [wrap_id (by omega) (by omega)]
def takeP (s : List UInt8) (k : Nat) : AV := if s.length < k then .tup [I 0, S [], I 2] else .tup [I (numB (s.take k) : Nat), S (s.drop k), I 0]
theorem o_idx {a : List UInt8} {j : Nat} {b : UInt8} (h : a[j]? = some b) : idxO (C M) 9 (S a) (I (j : Nat)) σ = .val (.one (.int .u8 (b.toNat : Nat))) := by
  show indexA (C M) 9 (S a) (I (j : Nat)) = _
  unfold indexA
  simp only [un9]
  show (match nth a j with | some b => Out.val (.one (.int .u8 (.ofNat b.toNat))) | none => .no) = _
  rw [nth_get, h]; rfl
theorem take_run (ht : Fr tab) {s : List UInt8} {k : Nat} (h1 : 1 ≤ k) (h7 : k ≤ 7) : callK (C M) tab (n + 2) 181 [S s, I (k : Nat)] σ = some (takeP s k, σ) := by
  refine callK_body (ht _ rfl) Tryz.func181 (by kernel_rfl) ?_
  rw [F181_eq]
  refine Yl.eq ?_
  unfold K181_0
  unfold K181_1
  refine y_val (k_lssF (by omega)) ?_
  refine y_val (gd_on (rfl)) ?_
  refine y_val (gd_on (k_gtrF (by omega))) ?_
  refine y_val (rfl) ?_
  refine y_iff (rfl) ?_
  unfold K181_2
  have hc := cut_run (n := n) (σ := σ) (k := k) ht (s := s)
  unfold takeP
  by_cases h : s.length < k
  · unfold cutP at hc
    rw [if_pos h] at hc
    refine y_cal rfl (hc) ?_
    refine y_val (rfl) ?_
    refine y_val (rfl) ?_
    refine y_val (rfl) ?_
    unfold K181_3
    refine y_val (k_neqT (by decide)) ?_
    refine y_ift (rfl) ?_
    exact y_ret3 ⟨by rw [if_pos h], rfl⟩
  · unfold cutP at hc
    rw [if_neg h] at hc
    refine y_cal rfl (hc) ?_
    refine y_val (rfl) ?_
    refine y_val (rfl) ?_
    refine y_val (rfl) ?_
    unfold K181_3
    refine y_val (k_neqF rfl) ?_
    refine y_iff (rfl) ?_
    unfold K181_4 K181_5
    refine y_val (o_slen un9) ?_
    have hl : (s.take k).length = k := by rw [List.length_take]; omega
    generalize s.take k = hd at hl ⊢
    rw [if_neg h, hl]
    unfold K181_7
    refine y_fora (L := fun f j (a : Nat) s' => L181_8 M (callK (C M) tab (n + 1)) f (S hd) (S (s.drop k)) (I (a : Nat)) (I (k : Nat)) (I (j : Nat)) s') (n := k) (fun j a s' => s' = σ ∧ a = numB (hd.take j)) (fun f j a s' hj hi hk => ?_) (fun f a s' hi => ?_) 0 M 0 σ (by omega) (by unfold M; omega) ⟨rfl, rfl⟩
    · obtain ⟨rfl, rfl⟩ := hi
      rw [L181_8_succ]
      obtain ⟨b, hb⟩ := get_lt (l := hd) (j := j) (by omega)
      unfold L181_8_b
      refine y_val (k_lssT (by omega)) ?_
      unfold K181_9
      refine y_ift (rfl) ?_
      have hlt : numB (hd.take j) < 256 ^ j := numB_lt j _ (by rw [List.length_take]; omega)
      have hp : 256 ^ j ≤ 256 ^ 6 := Nat.pow_le_pow_right (by decide) (by omega)
      have h6 : (256 : Nat) ^ 6 = 281474976710656 := by decide
      unfold K181_10
      refine y_val (o_shl8 (by omega)) ?_
      refine y_val (o_idx hb) ?_
      refine y_val (o_cvi un5 un3 (by have := b.toNat_lt; omega)) ?_
      refine y_val (o_or8 (by omega) b.toNat_lt) ?_
      unfold K181_11
      refine y_val (o_inc (by omega)) ?_
      exact hk _ _ ⟨rfl, by rw [List.take_add_one, hb]; exact (numB_snoc _ _).symm⟩
    · obtain ⟨rfl, rfl⟩ := hi
      rw [L181_8_succ]
      unfold L181_8_b
      refine y_val (k_lssF (by omega)) ?_
      unfold K181_9
      refine y_iff (rfl) ?_
      unfold K181_6
      exact y_ret3 ⟨by rw [List.take_of_length_le (by omega)], rfl⟩
end
end Core
end Go.Proofs.YtnoieleoklpciaaGreatDoor
