/- port.Take ends. -/
import Derived.Test.YtnoieleoklpciaaGreatDoorEth
set_option linter.unusedVariables false
set_option linter.unusedSimpArgs false
namespace Go.Proofs.YtnoieleoklpciaaGreatDoor
open Go.Run Go
namespace Core
open Ty
set_option maxRecDepth 1000000
section
variable {n : Nat} {σ : St} {tab : Tab}
theorem o_sft {a : List UInt8} {i j : Nat} (h : i ≤ j) (h2 : j ≤ a.length) : slcO (C M) 9 (S a) (some (I (i : Nat))) (some (I (j : Nat))) none σ = .val (S ((a.drop i).take (j - i))) := by
  show sliceF (C M) 9 (S a) (some (I (i : Nat))) (some (I (j : Nat))) none σ = _
  unfold sliceF
  simp only [un9]
  show sliceStr a (some i) (some j) = _
  unfold sliceStr
  have h3 : Nat.ble i j = true := Nat.ble_eq_true_of_le h
  have h4 : Nat.ble j (lenN a) = true := Nat.ble_eq_true_of_le (by rw [lenN_eq]; exact h2)
  simp only [h3, h4]
  show (match takeN (j - i) (dropN i a) with | some r => Out.val (S r) | none => .no) = _
  rw [dropN_drop, takeN_take _ _ (by rw [List.length_drop]; omega)]
/-- what is made of strings alone may be made in any state -/
theorem y_dsamS {o : St → Out} {v : AV} {c : AV → Bool} {k : AV → Kt} {Q : AV → St → Prop} (h : ∀ s, o s = .val v) (hv : okV v = true) (hc : (∀ s, eqIn o v s = true) → c v = true) (hk : Yl (k v σ) Q) : Yl (dSam (some true) o c k σ) Q :=
  y_dsam rfl (h σ) (hc fun s => eqIn_ok (h s) hv) hk
theorem y_ret4 {x y z w : AV} {Q : AV → St → Prop} (hq : Q (.tup [x, y, z, w]) σ) : Yl (retV (C M) [(none, x), (none, y), (none, z), (none, w)] σ) Q := y_ret rfl hq
/-- the number of k bytes at a place -/
def pt (s : List UInt8) (a k : Nat) : Nat := if (s.drop a).length < k then 0 else numB ((s.drop a).take k)
theorem pt_lt (s : List UInt8) (a k : Nat) : pt s a k < 256 ^ k := by
  unfold pt
  by_cases h : (s.drop a).length < k
  · rw [if_pos h]; exact Nat.pow_pos (by decide)
  · rw [if_neg h]; exact numB_lt k _ (by rw [List.length_take]; omega)
theorem ptake_run (ht : Fr tab) {s : List UInt8} {a : Nat} (ha : a ≤ s.length) : callK (C M) tab (n + 3) 213 [S s, I (a : Nat)] σ = some (I (pt s a 2 : Nat), σ) := by
  refine callK_body (ht _ rfl) Tryz.func213 (by kernel_rfl) ?_
  rw [F213_eq]
  refine Yl.eq ?_
  unfold K213_0
  refine y_val (o_sfr ha) ?_
  refine y_cal rfl (take_run (n := n) (k := 2) ht (by decide) (by decide)) ?_
  unfold takeP pt
  by_cases h : (s.drop a).length < 2
  · rw [if_pos h, if_pos h]
    refine y_val (rfl) ?_
    refine y_val (rfl) ?_
    refine y_val (rfl) ?_
    exact y_ret0 ⟨rfl, rfl⟩
  · rw [if_neg h, if_neg h]
    refine y_val (rfl) ?_
    refine y_val (rfl) ?_
    refine y_val (rfl) ?_
    exact y_ret0 ⟨rfl, rfl⟩
def PortQ (σ : St) (v : AV) (σ' : St) : Prop := σ' = σ ∧ ∃ a b : Nat, ∃ r e, v = .tup [I (a : Nat), I (b : Nat), S r, I e] ∧ Er e ∧ a < 65536 ∧ b < 65536
theorem port3 (ht : Fr tab) {r : List UInt8} {l8 s9 e10 : Int} (h8 : 8 ≤ l8) : Yl (K152_3 M (callK (C M) tab (n + 3)) (S r) (I l8) (I s9) (I e10) σ) (PortQ σ) := by
  have bad : PortQ σ (.tup [I 0, I 0, S [], I 16]) σ := ⟨rfl, 0, 0, _, _, rfl, ⟨by decide, by decide⟩, by decide, by decide⟩
  have ol : ∀ s, bltO (C M) .len [9] [S r] s = .val (I (r.length : Nat)) := fun s => o_slen un9
  by_cases c1 : (r.length : Int) < l8
  · unfold K152_3
    refine y_val (ol _) ?_
    refine y_val (k_lssT (by omega)) ?_
    refine y_val (gd_off) ?_
    refine y_val (gd_off) ?_
    refine y_val (gd_off) ?_
    refine y_val (rfl) ?_
    refine y_val (gd_off) ?_
    refine y_val (gd_off) ?_
    refine y_val (gd_off) ?_
    refine y_val (rfl) ?_
    refine y_val (gd_off) ?_
    refine y_val (gd_off) ?_
    refine y_val (gd_off) ?_
    refine y_val (gd_off) ?_
    refine y_val (rfl) ?_
    refine y_ift (rfl) ?_
    exact y_ret4 bad
  by_cases c2 : s9 < l8
  · unfold K152_3
    refine y_val (ol _) ?_
    refine y_val (k_lssF (by omega)) ?_
    refine y_val (gd_on (rfl)) ?_
    refine y_val (gd_on (rfl)) ?_
    refine y_val (gd_on (k_lssT (by omega))) ?_
    refine y_val (rfl) ?_
    refine y_val (gd_off) ?_
    refine y_val (gd_off) ?_
    refine y_val (gd_off) ?_
    refine y_val (rfl) ?_
    refine y_val (gd_off) ?_
    refine y_val (gd_off) ?_
    refine y_val (gd_off) ?_
    refine y_val (gd_off) ?_
    refine y_val (rfl) ?_
    refine y_ift (rfl) ?_
    exact y_ret4 bad
  by_cases c3 : e10 < s9
  · unfold K152_3
    refine y_val (ol _) ?_
    refine y_val (k_lssF (by omega)) ?_
    refine y_val (gd_on (rfl)) ?_
    refine y_val (gd_on (rfl)) ?_
    refine y_val (gd_on (k_lssF (by omega))) ?_
    refine y_val (rfl) ?_
    refine y_val (gd_on (rfl)) ?_
    refine y_val (gd_on (rfl)) ?_
    refine y_val (gd_on (k_gtrT (by omega))) ?_
    refine y_val (rfl) ?_
    refine y_val (gd_off) ?_
    refine y_val (gd_off) ?_
    refine y_val (gd_off) ?_
    refine y_val (gd_off) ?_
    refine y_val (rfl) ?_
    refine y_ift (rfl) ?_
    exact y_ret4 bad
  by_cases c4 : (r.length : Int) < e10
  · unfold K152_3
    refine y_val (ol _) ?_
    refine y_val (k_lssF (by omega)) ?_
    refine y_val (gd_on (rfl)) ?_
    refine y_val (gd_on (rfl)) ?_
    refine y_val (gd_on (k_lssF (by omega))) ?_
    refine y_val (rfl) ?_
    refine y_val (gd_on (rfl)) ?_
    refine y_val (gd_on (rfl)) ?_
    refine y_val (gd_on (k_gtrF (by omega))) ?_
    refine y_val (rfl) ?_
    refine y_val (gd_on (rfl)) ?_
    refine y_val (gd_on (rfl)) ?_
    refine y_val (gd_on (ol _)) ?_
    refine y_val (gd_on (k_gtrT (by omega))) ?_
    refine y_val (rfl) ?_
    refine y_ift (rfl) ?_
    exact y_ret4 bad
  unfold K152_3
  refine y_val (ol _) ?_
  refine y_val (k_lssF (by omega)) ?_
  refine y_val (gd_on (rfl)) ?_
  refine y_val (gd_on (rfl)) ?_
  refine y_val (gd_on (k_lssF (by omega))) ?_
  refine y_val (rfl) ?_
  refine y_val (gd_on (rfl)) ?_
  refine y_val (gd_on (rfl)) ?_
  refine y_val (gd_on (k_gtrF (by omega))) ?_
  refine y_val (rfl) ?_
  refine y_val (gd_on (rfl)) ?_
  refine y_val (gd_on (rfl)) ?_
  refine y_val (gd_on (ol _)) ?_
  refine y_val (gd_on (k_gtrF (by omega))) ?_
  refine y_val (rfl) ?_
  refine y_iff (rfl) ?_
  obtain ⟨s, rfl⟩ : ∃ s : Nat, s9 = s := ⟨s9.toNat, by omega⟩
  obtain ⟨e, rfl⟩ : ∃ s : Nat, e10 = s := ⟨e10.toNat, by omega⟩
  have p0 := ptake_run (n := n) (σ := σ) (s := r) (a := 0) ht (by omega)
  have p2 := ptake_run (n := n) (σ := σ) (s := r) (a := 2) ht (by omega)
  refine y_din ?_
  refine y_dcall rfl (p0) ?_
  refine y_dcall rfl (p2) ?_
  refine y_dsamS (fun s => o_sft (by omega) (by omega)) rfl (fun q => by simp only [q, Bool.and_self]) ?_
  exact y_ret4 ⟨rfl, _, _, _, _, rfl, ⟨by decide, by decide⟩, pt_lt r 0 2, pt_lt r 2 2⟩
theorem o_shr8 {t : TypeId} {a : Nat} {k : IntKind} {c : Nat} (h : c ≤ 8) (ha : a < 256) : binO (C M) .shr t (.one (.int .u8 (a : Int))) (.one (.int k (.ofNat c))) σ = .val (.one (.int .u8 ((a / 2 ^ c : Nat) : Int))) := by
  have e : binO (C M) .shr t (.one (.int .u8 (a : Int))) (.one (.int k (.ofNat c))) σ = intV .u8 (Int.fdiv (a : Int) (.ofNat (Nat.pow 2 (bif Nat.ble c 8 then c else 8)))) := rfl
  rw [e, Nat.ble_eq_true_of_le h, intV_eq]
  show Out.val (.one (.int .u8 (Int.fdiv (a : Int) ((2 ^ c : Nat) : Int)))) = _
  rw [Int.fdiv_eq_ediv_of_nonneg _ (Int.natCast_nonneg _), ← Int.natCast_ediv]
theorem port_run (ht : Fr tab) {p : Int} {r : List UInt8} : Yl (callK (C M) tab (n + 4) 152 [I p, S r] σ) (PortQ σ) := by
  have ol : ∀ s, bltO (C M) .len [9] [S r] s = .val (I (r.length : Nat)) := fun s => o_slen un9
  refine y_body (ht _ rfl) Tryz.func152 (by kernel_rfl) ?_
  rw [F152_eq]
  unfold K152_0 K152_1
  refine y_val (ol _) ?_
  unfold K152_2 K152_4
  by_cases h6 : p = 6
  · refine y_val (k_eqlT h6) ?_
    unfold K152_5
    refine y_ift (rfl) ?_
    refine y_val (ol _) ?_
    by_cases hl : (12 : Int) < (r.length : Int)
    · obtain ⟨b, hb⟩ := get_lt (l := r) (j := 12) (by omega)
      have hbb := b.toNat_lt
      have hq : b.toNat / 16 < 16 := by omega
      refine y_val (k_gtrT hl) ?_
      refine y_ift (rfl) ?_
      refine y_val (o_idx hb) ?_
      refine y_val (o_shr8 (by decide) hbb) ?_
      rw [show b.toNat / 2 ^ 4 = b.toNat / 16 from rfl]
      refine y_val (o_cvi un5 un3 (by omega)) ?_
      refine y_val (o_mul) ?_
      rw [wrap_id (by omega) (by omega)]
      exact port3 ht (by decide)
    · refine y_val (k_gtrF (by omega)) ?_
      refine y_iff (rfl) ?_
      exact port3 ht (by decide)
  · refine y_val (k_eqlF h6) ?_
    unfold K152_5
    refine y_iff (rfl) ?_
    by_cases h17 : p = 17
    · refine y_val (k_eqlT h17) ?_
      refine y_ift (rfl) ?_
      refine y_val (ol _) ?_
      by_cases hl : (5 : Int) < (r.length : Int)
      · refine y_val (k_gtrT hl) ?_
        refine y_ift (rfl) ?_
        refine y_cal rfl (ptake_run (n := n) (a := 4) ht (by omega)) ?_
        exact port3 ht (by decide)
      · refine y_val (k_gtrF (by omega)) ?_
        refine y_iff (rfl) ?_
        exact port3 ht (by decide)
    · refine y_val (k_eqlF h17) ?_
      refine y_iff (rfl) ?_
      exact y_ret4 ⟨rfl, 0, 0, _, _, rfl, ⟨by decide, by decide⟩, by decide, by decide⟩
/-! octet.Sum -/
theorem o_and1 {t : TypeId} {j : Nat} (h : j < 9223372036854775808) : binO (C M) .and t (I (j : Nat)) (I 1) σ = .val (I ((j % 2 : Nat) : Int)) := by
  show intV .i64 (wrapA .i64 (.ofNat (Nat.land (Go.Run.bits .i64 ((j : Nat) : Int)) (Go.Run.bits .i64 ((1 : Nat) : Int))))) = _
  rw [bits_i h, bits_i (by decide), intV_eq]
  have e : Nat.land j 1 = j % 2 := Nat.and_one_is_mod j
  show Out.val (I (wrapA .i64 ((Nat.land j 1 : Nat) : Int))) = _
  rw [e, wrap_id (by omega) (by omega)]
theorem o_and16 {t : TypeId} {j : Nat} (h : j < 9223372036854775808) : binO (C M) .and t (I (j : Nat)) (I 65535) σ = .val (I ((j % 65536 : Nat) : Int)) := by
  show intV .i64 (wrapA .i64 (.ofNat (Nat.land (Go.Run.bits .i64 ((j : Nat) : Int)) (Go.Run.bits .i64 ((65535 : Nat) : Int))))) = _
  rw [bits_i h, bits_i (by decide), intV_eq]
  have e : Nat.land j 65535 = j % 65536 := Nat.and_two_pow_sub_one_eq_mod j 16
  show Out.val (I (wrapA .i64 ((Nat.land j 65535 : Nat) : Int))) = _
  rw [e, wrap_id (by omega) (by omega)]
theorem o_shlw {t : TypeId} {a c : Nat} (hc : c ≤ 64) : binO (C M) .shl t (I (a : Nat)) (I (c : Nat)) σ = .val (I (wrapA .i64 ((a : Int) * ((2 ^ c : Nat) : Int)))) := by
  show intV .i64 (wrapA .i64 (Int.mul (a : Int) (.ofNat (Nat.pow 2 (bif Nat.ble c 64 then c else 64))))) = _
  rw [Nat.ble_eq_true_of_le hc, intV_eq]
  rfl
theorem o_xorx {t : TypeId} {a b : Int} : ∃ q, ∀ s, binO (C M) .xor t (I a) (I b) s = .val (I q) := by
  refine ⟨wrapA .i64 (.ofNat (Nat.xor (Go.Run.bits .i64 a) (Go.Run.bits .i64 b))), fun s => ?_⟩
  show intV .i64 _ = _
  rw [intV_eq]
  rfl
theorem sum_run (ht : Fr tab) {s : List UInt8} (hs : s.length ≤ 100) : ∃ q, callK (C M) tab (n + 1) 258 [S s] σ = some (I q, σ) := by
  have key : Yl (callK (C M) tab (n + 1) 258 [S s] σ) (fun v s' => s' = σ ∧ ∃ q, v = I q) := by
    refine y_body (ht _ rfl) Tryz.func258 (by kernel_rfl) ?_
    rw [F258_eq]
    unfold K258_0 K258_1 K258_2
    refine y_val (o_slen un9) ?_
    unfold K258_6
    refine y_fora (L := fun f j (a : Nat) s' => L258_7 M (callK (C M) tab n) f (S s) (I (a : Nat)) (I (s.length : Nat)) (I (j : Nat)) s') (n := s.length) (fun j a s' => s' = σ ∧ a ≤ j * 65280) (fun f j a s' hj hi hk => ?_) (fun f a s' hi => ?_) 0 M 0 σ (by omega) (by unfold M; omega) ⟨rfl, by omega⟩
    · obtain ⟨rfl, ha⟩ := hi
      rw [L258_7_succ]
      obtain ⟨b, hb⟩ := get_lt (l := s) (j := j) (by omega)
      have hbb := b.toNat_lt
      unfold L258_7_b
      refine y_val (k_lssT (by omega)) ?_
      unfold K258_8
      refine y_ift (rfl) ?_
      unfold K258_9
      refine y_val (o_idx hb) ?_
      refine y_val (o_cvi un5 un3 (by omega)) ?_
      refine y_val (o_and1 (by omega)) ?_
      refine y_val (o_sub) ?_
      rw [wrap_id (by omega) (by omega)]
      refine y_val (o_mul) ?_
      rw [wrap_id (by omega) (by omega), show (8 * (1 - ((j % 2 : Nat) : Int))) = ((8 * (1 - j % 2) : Nat) : Int) by omega]
      refine y_val (o_shlw (by omega)) ?_
      have hp : b.toNat * 2 ^ (8 * (1 - j % 2)) ≤ 65280 := by
        rcases Nat.mod_two_eq_zero_or_one j with h | h <;> rw [h]
        · show b.toNat * 256 ≤ _; omega
        · show b.toNat * 1 ≤ _; omega
      rw [← Int.natCast_mul]
      generalize b.toNat * 2 ^ (8 * (1 - j % 2)) = w at hp ⊢
      rw [wrap_id (by omega) (by omega)]
      refine y_val (o_addw (by omega) (by omega)) ?_
      unfold K258_10
      refine y_val (o_inc (by omega)) ?_
      rw [← Int.natCast_add]
      exact hk (a + w) _ ⟨rfl, by omega⟩
    · obtain ⟨rfl, ha⟩ := hi
      rw [L258_7_succ]
      unfold L258_7_b
      refine y_val (k_lssF (by omega)) ?_
      unfold K258_8
      refine y_iff (rfl) ?_
      unfold K258_3
      have lp : ∀ (k fuel a : Nat) (s' : St), a ≤ 65535 * (k + 1) → k < fuel → a < 100000000 → Yl (L258_5 M (callK (C M) tab n) fuel (I (a : Nat)) s') (fun v s2 => s2 = s' ∧ ∃ q, v = I q) := by
        intro k
        induction k with
        | zero =>
          intro fuel a s' ha hf hb
          obtain ⟨f, rfl⟩ : ∃ f, fuel = f + 1 := ⟨fuel - 1, by omega⟩
          rw [L258_5_succ]
          unfold L258_5_b
          refine y_val (k_gtrF (by omega)) ?_
          refine y_iff (rfl) ?_
          unfold K258_4
          obtain ⟨q, hq⟩ := o_xorx (t := 3) (a := (a : Nat)) (b := 65535)
          refine y_val (hq _) ?_
          exact y_ret0 ⟨rfl, q, rfl⟩
        | succ k ih =>
          intro fuel a s' ha hf hb
          obtain ⟨f, rfl⟩ : ∃ f, fuel = f + 1 := ⟨fuel - 1, by omega⟩
          rw [L258_5_succ]
          unfold L258_5_b
          by_cases h : 65535 < a
          · refine y_val (k_gtrT (by omega)) ?_
            refine y_ift (rfl) ?_
            refine y_val (o_and16 (by omega)) ?_
            refine y_val (o_shr (c := 16) (by decide)) ?_
            rw [show ((a : Nat) : Int) / ((2 ^ 16 : Nat) : Int) = ((a / 65536 : Nat) : Int) by omega]
            refine y_val (o_addw (by omega) (by omega)) ?_
            rw [← Int.natCast_add]
            exact ih f _ s' (by omega) (by omega) (by omega)
          · refine y_val (k_gtrF (by omega)) ?_
            refine y_iff (rfl) ?_
            unfold K258_4
            obtain ⟨q, hq⟩ := o_xorx (t := 3) (a := (a : Nat)) (b := 65535)
            refine y_val (hq _) ?_
            exact y_ret0 ⟨rfl, q, rfl⟩
      exact lp 1000 M a _ (by omega) (by unfold M; omega) (by omega)
  obtain ⟨v, s', h1, rfl, q, rfl⟩ := key
  exact ⟨q, h1⟩
end
end Core
end Go.Proofs.YtnoieleoklpciaaGreatDoor
